/- What each operation yields: the rewriting rules of the walk over heaps. No condition. -/
import Derived.Test.YtohkbpnblkkdgaaVcG
namespace Go.Vc
set_option linter.unusedSimpArgs false
set_option linter.unusedVariables false

/-- A parting of ways: nothing behind it is looked at before it is decided. -/
def br (c : Prop) (x y : Unit → Prop) : Prop := (c → x ()) ∧ (¬ c → y ())
theorem br_intro {c : Prop} {x y : Unit → Prop} (h1 : c → x ()) (h2 : ¬ c → y ()) : br c x y := ⟨h1, h2⟩
theorem br_true {x y : Unit → Prop} : br True x y = x () := by simp [br]
theorem br_false {x y : Unit → Prop} : br False x y = y () := by simp [br]
theorem br_congr {c c' : Prop} {x y : Unit → Prop} (h : c = c') : br c x y = br c' x y := by rw [h]
theorem br_not {c : Prop} {x y : Unit → Prop} : br (¬ c) x y = br c y x := by
  unfold br; rw [Classical.not_not]; exact propext ⟨fun h => ⟨h.2, h.1⟩, fun h => ⟨h.2, h.1⟩⟩
theorem br_pos {c : Prop} {x y : Unit → Prop} (hc : c) (h : x ()) : br c x y := ⟨fun _ => h, fun hn => absurd hc hn⟩
theorem br_neg {c : Prop} {x y : Unit → Prop} (hc : ¬ c) (h : y ()) : br c x y := ⟨fun hp => absurd hp hc, fun _ => h⟩

theorem OptK_some {α : Type} {v : α} {K : α → Prop} : OptK (some v) K = K v := _root_.id rfl
theorem OptK_none {α : Type} {K : α → Prop} : OptK none K = False := _root_.id rfl
theorem OptK_congr {α : Type} {o o' : Option α} {K : α → Prop} (h : o = o') : OptK o K = OptK o' K := by rw [h]
theorem OptK_intro {α : Type} {o : Option α} {K : α → Prop} {v : α} (h : o = some v) (hk : K v) : OptK o K := by rw [h]; exact hk
theorem HCalls_congr {P : Program} {f f' : FuncId} {args args' : Array Value} {h h' : Heap} {R : Value → Heap → Prop} (e1 : f = f') (e2 : args = args') (e3 : h = h') : HCalls P f args h R = HCalls P f' args' h' R := by rw [e1, e2, e3]

/-! ### Environments -/
theorem get_nil {t : Nat} : Env.get [] t = none := _root_.id rfl
theorem get_cons {k t : Nat} {v : Value} {r : Env} : Env.get ((k, v) :: r) t = if k = t then some v else Env.get r t := _root_.id rfl
theorem set_nil {t : Nat} {v : Value} : Env.set [] t v = [(t, v)] := _root_.id rfl
theorem set_cons {k t : Nat} {u v : Value} {r : Env} : Env.set ((k, u) :: r) t v = if k = t then (k, v) :: r else (k, u) :: Env.set r t v := _root_.id rfl
theorem keep_nil {ρ : Env} : Env.keep [] ρ = [] := _root_.id rfl
def optc (o : Option Value) (k : Nat) (r : Env) : Env := match o with
  | some v => (k, v) :: r
  | none => r
theorem keep_cons {k : Nat} {ks : List Nat} {ρ : Env} : Env.keep (k :: ks) ρ = optc (Env.get ρ k) k (Env.keep ks ρ) := by
  simp only [Env.keep, optc]; cases Env.get ρ k <;> rfl
theorem optc_some {v : Value} {k : Nat} {r : Env} : optc (some v) k r = (k, v) :: r := _root_.id rfl
theorem optc_none {k : Nat} {r : Env} : optc none k r = r := _root_.id rfl
theorem lk_eq {τ ρ : Env} {t : Nat} : lk τ ρ t = (Env.get τ t).orElse fun _ => Env.get ρ t := by unfold lk; cases Env.get τ t <;> rfl
theorem orElse_some {v : Value} {f : Unit → Option Value} : (some v).orElse f = some v := _root_.id rfl
theorem orElse_none {f : Unit → Option Value} : (none : Option Value).orElse f = f () := _root_.id rfl
theorem evo_tmp {τ ρ : Env} {t : Nat} : evo τ ρ (.tmp t) = lk τ ρ t := _root_.id rfl
theorem evo_const {τ ρ : Env} {v : Value} : evo τ ρ (.const v) = some v := _root_.id rfl
theorem evo_func {τ ρ : Env} {f : Nat} : evo τ ρ (.func f) = some (.func (.func f) #[] #[]) := _root_.id rfl
theorem evo_global {τ ρ : Env} {g : Nat} : evo τ ρ (.global g) = some (.pointer (some ⟨g, 0, none⟩)) := _root_.id rfl
theorem putT_t {t : Nat} {v : Value} {τ : Env} : putT (some (t, false)) v τ = (t, v) :: τ := _root_.id rfl
theorem putT_r {t : Nat} {v : Value} {τ : Env} : putT (some (t, true)) v τ = τ := _root_.id rfl
theorem putT_n {v : Value} {τ : Env} : putT none v τ = τ := _root_.id rfl
theorem putR_t {t : Nat} {v : Value} {ρ : Env} : putR (some (t, false)) v ρ = ρ := _root_.id rfl
theorem putR_r {t : Nat} {v : Value} {ρ : Env} : putR (some (t, true)) v ρ = ρ.set t v := _root_.id rfl
theorem putR_n {v : Value} {ρ : Env} : putR none v ρ = ρ := _root_.id rfl
theorem init_nil {args : List Value} : initEnv args [] = [] := _root_.id rfl
theorem init_cons {args : List Value} {t : Nat} {r : List Nat} : initEnv args (t :: r) = (t, args.getD t undef) :: initEnv args r := _root_.id rfl
theorem getD_nil {t : Nat} {u : Value} : ([] : List Value).getD t u = u := _root_.id rfl
theorem getD_zero {v u : Value} {r : List Value} : (v :: r).getD 0 u = v := _root_.id rfl
theorem getD_succ {t : Nat} {v u : Value} {r : List Value} : (v :: r).getD (t + 1) u = r.getD t u := by simp
theorem gets_nil' {P : Program} {ρ : Env} {h : Heap} : gets P ρ h [] = some [] := _root_.id rfl
theorem res1_t {P : Program} {ρ : Env} {h : Heap} {t : Nat} : res1 P ρ h (t, none) = Env.get ρ t := _root_.id rfl
def cellV (P : Program) (ty : TypeId) (h : Heap) (v : Value) : Option Value := rd P (do loadVar ty (← asAddr v)) h
theorem cellV_ptr {P : Program} {ty : TypeId} {a : Addr} {h : Heap} : cellV P ty h (.pointer (some a)) = rd P (loadVar ty a) h := _root_.id rfl
theorem res1_c {P : Program} {ρ : Env} {h : Heap} {t ty : Nat} : res1 P ρ h (t, some ty) = (Env.get ρ t).bind (cellV P ty h) := _root_.id rfl
theorem gets_cons' {P : Program} {ρ : Env} {h : Heap} {t : Nat × Option TypeId} {r : List (Nat × Option TypeId)} : gets P ρ h (t :: r) = (res1 P ρ h t).bind fun v => (gets P ρ h r).map fun l => v :: l := _root_.id rfl
theorem tup_one {v : Value} : tup [v] = v := _root_.id rfl
theorem tup_nil : tup [] = .tuple #[] := _root_.id rfl
theorem tup_two {v u : Value} {r : List Value} : tup (v :: u :: r) = .tuple (v :: u :: r).toArray := _root_.id rfl

/-! ### Code -/
section
variable {P : Program}
theorem vc_skip {Q : Ex → Env → Heap → Prop} {ρ : Env} {h : Heap} : Cd.vc P .skip Q ρ h = Q .normal ρ h := _root_.id rfl
theorem vc_ret {Q : Ex → Env → Heap → Prop} {ρ : Env} {h : Heap} : Cd.vc P .ret Q ρ h = Q .ret ρ h := _root_.id rfl
theorem vc_exit {Q : Ex → Env → Heap → Prop} {ρ : Env} {h : Heap} {id : Nat} : Cd.vc P (.exit id) Q ρ h = Q (.exit id) ρ h := _root_.id rfl
theorem vc_seq {Q : Ex → Env → Heap → Prop} {ρ : Env} {h : Heap} {a b : Cd} : Cd.vc P (.seq a b) Q ρ h = Cd.vc P a (Ex.thn (Cd.vc P b Q) Q) ρ h := _root_.id rfl
theorem vc_block {Q : Ex → Env → Heap → Prop} {ρ : Env} {h : Heap} {a : Cd} {id : Nat} : Cd.vc P (.block id a) Q ρ h = Cd.vc P a (Ex.inb id Q) ρ h := _root_.id rfl
theorem vc_region {Q : Ex → Env → Heap → Prop} {ρ : Env} {h : Heap} {ops : List Sop} : Cd.vc P (.region ops) Q ρ h = vcOps P (Q .normal) ops [] ρ h := _root_.id rfl
theorem vc_draw {Q : Ex → Env → Heap → Prop} {ρ : Env} {h : Heap} {ops : List (Sop × List Sop)} : Cd.vc P (.draw ops) Q ρ h = vcDraw P (Q .normal) ops [] ρ h := _root_.id rfl
def ct (P : Program) (a : Cd) (Q : Ex → Env → Heap → Prop) (ρ : Env) (h : Heap) : Unit → Prop := fun _ => Cd.vc P a Q ρ h
def cc (P : Program) (a b : Cd) (Q : Ex → Env → Heap → Prop) (ρ : Env) (h : Heap) : Bool → Prop := fun t => br (t = true) (ct P a Q ρ h) (ct P b Q ρ h)
theorem ct_ap {Q : Ex → Env → Heap → Prop} {ρ : Env} {h : Heap} {a : Cd} {u : Unit} : ct P a Q ρ h u = Cd.vc P a Q ρ h := _root_.id rfl
theorem cc_ap {Q : Ex → Env → Heap → Prop} {ρ : Env} {h : Heap} {a b : Cd} {t : Bool} : cc P a b Q ρ h t = br (t = true) (ct P a Q ρ h) (ct P b Q ρ h) := _root_.id rfl
theorem vc_cond {Q : Ex → Env → Heap → Prop} {ρ : Env} {h : Heap} {c : Operand} {a b : Cd} :
    Cd.vc P (.cond c a b) Q ρ h = OptK ((evo [] ρ c).bind asB) (cc P a b Q ρ h) := by
  simp only [Cd.vc]
  cases (evo [] ρ c).bind asB with
  | none => rfl
  | some t => cases t <;> simp [OptK, br, cc, ct]
theorem thn_normal {N : Env → Heap → Prop} {Q : Ex → Env → Heap → Prop} {ρ : Env} {h : Heap} : Ex.thn N Q .normal ρ h = N ρ h := _root_.id rfl
theorem thn_ret {N : Env → Heap → Prop} {Q : Ex → Env → Heap → Prop} {ρ : Env} {h : Heap} : Ex.thn N Q .ret ρ h = Q .ret ρ h := _root_.id rfl
theorem thn_exit {N : Env → Heap → Prop} {Q : Ex → Env → Heap → Prop} {ρ : Env} {h : Heap} {id : Nat} : Ex.thn N Q (.exit id) ρ h = Q (.exit id) ρ h := _root_.id rfl
theorem inb_normal {Q : Ex → Env → Heap → Prop} {ρ : Env} {h : Heap} {id : Nat} : Ex.inb id Q .normal ρ h = Q .normal ρ h := _root_.id rfl
theorem inb_ret {Q : Ex → Env → Heap → Prop} {ρ : Env} {h : Heap} {id : Nat} : Ex.inb id Q .ret ρ h = Q .ret ρ h := _root_.id rfl
theorem inb_exit {Q : Ex → Env → Heap → Prop} {ρ : Env} {h : Heap} {id id' : Nat} : Ex.inb id Q (.exit id') ρ h = if id' = id then Q .normal ρ h else Q (.exit id') ρ h := _root_.id rfl
def cr (R : Value → Heap → Prop) (h : Heap) : List Value → Prop := fun l => R (tup l) h
theorem cr_ap {R : Value → Heap → Prop} {h : Heap} {l : List Value} : cr R h l = R (tup l) h := _root_.id rfl
theorem ret_normal {ts : List (Nat × Option TypeId)} {R : Value → Heap → Prop} {ρ : Env} {h : Heap} : retQ P ts R .normal ρ h = OptK (gets P ρ h ts) (cr R h) := _root_.id rfl
theorem ret_ret {ts : List (Nat × Option TypeId)} {R : Value → Heap → Prop} {ρ : Env} {h : Heap} : retQ P ts R .ret ρ h = OptK (gets P ρ h ts) (cr R h) := _root_.id rfl

/-- What is to hold behind a round. -/
def kback (I : Nat → Env → Heap → Prop) (ks : List Nat) (m : Nat) : Env → Heap → Prop := fun ρ' h' => ∃ m', m' < m ∧ I m' (Env.keep ks ρ') h'
theorem kback_ap {I : Nat → Env → Heap → Prop} {ks : List Nat} {m : Nat} {ρ : Env} {h : Heap} : kback I ks m ρ h = ∃ m', m' < m ∧ I m' (Env.keep ks ρ) h := _root_.id rfl
/-- A loop: its environment is first cut to some slots. -/
theorem loop_intro {Q : Ex → Env → Heap → Prop} {ρ : Env} {h : Heap} {a : Cd} (ks : List Nat) (I : Nat → Env → Heap → Prop) (h0 : ∃ m, I m (Env.keep ks ρ) h)
    (hr : ∀ m ρ h, I m ρ h → Cd.vc P a (Ex.thn (kback I ks m) Q) ρ h) : Cd.vc P (.loop a) Q ρ h := ⟨ks, I, h0, hr⟩

/-! ### Operations -/
def rdo (P : Program) (op : Op) (ty : TypeId) (τ ρ : Env) (h : Heap) : Option Value := rdOp P ⟨none, op, ty, none, true⟩ τ ρ h
def eff (P : Program) (op : Op) (ty : TypeId) (τ ρ : Env) (h : Heap) (K : Value → Heap → Prop) : Prop := vcOp P ⟨none, op, ty, none, false⟩ τ ρ h K

theorem rdOp_eq {d g : Option (Nat × Bool)} {op : Op} {ty : TypeId} {q : Bool} {τ ρ : Env} {h : Heap} : rdOp P ⟨d, op, ty, g, q⟩ τ ρ h = rdo P op ty τ ρ h := by unfold rdo rdOp; rfl
theorem vcOp_eq {d g : Option (Nat × Bool)} {op : Op} {ty : TypeId} {q : Bool} {τ ρ : Env} {h : Heap} {K : Value → Heap → Prop} : vcOp P ⟨d, op, ty, g, q⟩ τ ρ h K = eff P op ty τ ρ h K := by unfold eff vcOp; rfl
theorem ops_nil {K : Env → Heap → Prop} {τ ρ : Env} {h : Heap} : vcOps P K [] τ ρ h = K ρ h := _root_.id rfl
/-- What comes behind an operation, as a constant with arguments: rewriting does not look into it. -/
def kq (P : Program) (K : Env → Heap → Prop) (r : List Sop) (d : Option (Nat × Bool)) (τ ρ : Env) (h : Heap) : Value → Prop := fun v => vcOps P K r (putT d v τ) (putR d v ρ) h
def ke (P : Program) (K : Env → Heap → Prop) (r : List Sop) (d : Option (Nat × Bool)) (τ ρ : Env) : Value → Heap → Prop := fun v h' => vcOps P K r (putT d v τ) (putR d v ρ) h'
def kbq (P : Program) (K : Env → Heap → Prop) (r : List Sop) (d : Option (Nat × Bool)) (op : Op) (ty : TypeId) (τ ρ : Env) (h : Heap) : Unit → Prop := fun _ => OptK (rdo P op ty τ ρ h) (kq P K r d τ ρ h)
def kbe (P : Program) (K : Env → Heap → Prop) (r : List Sop) (d : Option (Nat × Bool)) (op : Op) (ty : TypeId) (τ ρ : Env) (h : Heap) : Unit → Prop := fun _ => eff P op ty τ ρ h (ke P K r d τ ρ)
def kbu (P : Program) (K : Env → Heap → Prop) (r : List Sop) (d : Option (Nat × Bool)) (τ ρ : Env) (h : Heap) : Unit → Prop := fun _ => vcOps P K r (putT d undef τ) (putR d undef ρ) h
def kgq (P : Program) (K : Env → Heap → Prop) (r : List Sop) (d : Option (Nat × Bool)) (op : Op) (ty : TypeId) (want : Bool) (τ ρ : Env) (h : Heap) : Value → Prop := fun x => br (asB x = some want) (kbq P K r d op ty τ ρ h) (kbu P K r d τ ρ h)
def kge (P : Program) (K : Env → Heap → Prop) (r : List Sop) (d : Option (Nat × Bool)) (op : Op) (ty : TypeId) (want : Bool) (τ ρ : Env) (h : Heap) : Value → Prop := fun x => br (asB x = some want) (kbe P K r d op ty τ ρ h) (kbu P K r d τ ρ h)
theorem kq_ap {K : Env → Heap → Prop} {r : List Sop} {d : Option (Nat × Bool)} {τ ρ : Env} {h : Heap} {v : Value} : kq P K r d τ ρ h v = vcOps P K r (putT d v τ) (putR d v ρ) h := _root_.id rfl
theorem ke_ap {K : Env → Heap → Prop} {r : List Sop} {d : Option (Nat × Bool)} {τ ρ : Env} {h : Heap} {v : Value} : ke P K r d τ ρ v h = vcOps P K r (putT d v τ) (putR d v ρ) h := _root_.id rfl
theorem kbq_ap {K : Env → Heap → Prop} {r : List Sop} {d : Option (Nat × Bool)} {op : Op} {ty : TypeId} {τ ρ : Env} {h : Heap} {u : Unit} : kbq P K r d op ty τ ρ h u = OptK (rdo P op ty τ ρ h) (kq P K r d τ ρ h) := _root_.id rfl
theorem kbe_ap {K : Env → Heap → Prop} {r : List Sop} {d : Option (Nat × Bool)} {op : Op} {ty : TypeId} {τ ρ : Env} {h : Heap} {u : Unit} : kbe P K r d op ty τ ρ h u = eff P op ty τ ρ h (ke P K r d τ ρ) := _root_.id rfl
theorem kbu_ap {K : Env → Heap → Prop} {r : List Sop} {d : Option (Nat × Bool)} {τ ρ : Env} {h : Heap} {u : Unit} : kbu P K r d τ ρ h u = vcOps P K r (putT d undef τ) (putR d undef ρ) h := _root_.id rfl
theorem kgq_ap {K : Env → Heap → Prop} {r : List Sop} {d : Option (Nat × Bool)} {op : Op} {ty : TypeId} {want : Bool} {τ ρ : Env} {h : Heap} {x : Value} : kgq P K r d op ty want τ ρ h x = br (asB x = some want) (kbq P K r d op ty τ ρ h) (kbu P K r d τ ρ h) := _root_.id rfl
theorem kge_ap {K : Env → Heap → Prop} {r : List Sop} {d : Option (Nat × Bool)} {op : Op} {ty : TypeId} {want : Bool} {τ ρ : Env} {h : Heap} {x : Value} : kge P K r d op ty want τ ρ h x = br (asB x = some want) (kbe P K r d op ty τ ρ h) (kbu P K r d τ ρ h) := _root_.id rfl
theorem ops_q {K : Env → Heap → Prop} {τ ρ : Env} {h : Heap} {d : Option (Nat × Bool)} {op : Op} {ty : TypeId} {r : List Sop} :
    vcOps P K (⟨d, op, ty, none, true⟩ :: r) τ ρ h = OptK (rdo P op ty τ ρ h) (kq P K r d τ ρ h) := by
  show vcOne P _ τ ρ h _ = _
  simp only [vcOne, vcRun, if_true, rdOp_eq]; cases rdo P op ty τ ρ h <;> rfl
theorem ops_e {K : Env → Heap → Prop} {τ ρ : Env} {h : Heap} {d : Option (Nat × Bool)} {op : Op} {ty : TypeId} {r : List Sop} :
    vcOps P K (⟨d, op, ty, none, false⟩ :: r) τ ρ h = eff P op ty τ ρ h (ke P K r d τ ρ) := by
  show vcOne P _ τ ρ h _ = _
  simp only [vcOne, vcRun, Bool.false_eq_true, if_false, vcOp_eq]; rfl
theorem ops_gq {K : Env → Heap → Prop} {τ ρ : Env} {h : Heap} {d : Option (Nat × Bool)} {op : Op} {ty : TypeId} {r : List Sop} {g : Nat} {want : Bool} :
    vcOps P K (⟨d, op, ty, some (g, want), true⟩ :: r) τ ρ h = OptK (lk τ ρ g) (kgq P K r d op ty want τ ρ h) := by
  show vcOne P _ τ ρ h _ = _
  simp only [vcOne, vcRun, if_true, rdOp_eq]
  cases lk τ ρ g with
  | none => rfl
  | some x => by_cases hx : asB x = some want <;> simp only [hx, br, OptK, kgq, kbq, kbu, kq] <;> cases rdo P op ty τ ρ h <;> simp [hx]
theorem ops_ge {K : Env → Heap → Prop} {τ ρ : Env} {h : Heap} {d : Option (Nat × Bool)} {op : Op} {ty : TypeId} {r : List Sop} {g : Nat} {want : Bool} :
    vcOps P K (⟨d, op, ty, some (g, want), false⟩ :: r) τ ρ h = OptK (lk τ ρ g) (kge P K r d op ty want τ ρ h) := by
  show vcOne P _ τ ρ h _ = _
  simp only [vcOne, vcRun, Bool.false_eq_true, if_false, vcOp_eq]
  cases lk τ ρ g with
  | none => rfl
  | some x => by_cases hx : asB x = some want <;> simp [hx, br, OptK, kge, kbe, kbu] <;> rfl
/-! the same, in a region that draws -/
theorem drw_nil {K : Env → Heap → Prop} {τ ρ : Env} {h : Heap} : vcDraw P K [] τ ρ h = K ρ h := _root_.id rfl
def dq (P : Program) (K : Env → Heap → Prop) (r : List (Sop × List Sop)) (d : Option (Nat × Bool)) (τ ρ : Env) (h : Heap) : Value → Prop := fun v => vcDraw P K r (putT d v τ) (putR d v ρ) h
def de (P : Program) (K : Env → Heap → Prop) (re : List Sop) (r : List (Sop × List Sop)) (d : Option (Nat × Bool)) (τ ρ : Env) : Value → Heap → Prop := fun v h' => stills P re (putT d v τ) (putR d v ρ) h' ∧ vcDraw P K r (putT d v τ) (putR d v ρ) h'
def dbq (P : Program) (K : Env → Heap → Prop) (r : List (Sop × List Sop)) (d : Option (Nat × Bool)) (op : Op) (ty : TypeId) (τ ρ : Env) (h : Heap) : Unit → Prop := fun _ => OptK (rdo P op ty τ ρ h) (dq P K r d τ ρ h)
def dbe (P : Program) (K : Env → Heap → Prop) (re : List Sop) (r : List (Sop × List Sop)) (d : Option (Nat × Bool)) (op : Op) (ty : TypeId) (τ ρ : Env) (h : Heap) : Unit → Prop := fun _ => eff P op ty τ ρ h (de P K re r d τ ρ)
def dbu (P : Program) (K : Env → Heap → Prop) (re : List Sop) (r : List (Sop × List Sop)) (d : Option (Nat × Bool)) (τ ρ : Env) (h : Heap) : Unit → Prop := fun _ => stills P re (putT d undef τ) (putR d undef ρ) h ∧ vcDraw P K r (putT d undef τ) (putR d undef ρ) h
def dgq (P : Program) (K : Env → Heap → Prop) (r : List (Sop × List Sop)) (d : Option (Nat × Bool)) (op : Op) (ty : TypeId) (want : Bool) (τ ρ : Env) (h : Heap) : Value → Prop := fun x => br (asB x = some want) (dbq P K r d op ty τ ρ h) (dbu P K [] r d τ ρ h)
def dge (P : Program) (K : Env → Heap → Prop) (re : List Sop) (r : List (Sop × List Sop)) (d : Option (Nat × Bool)) (op : Op) (ty : TypeId) (want : Bool) (τ ρ : Env) (h : Heap) : Value → Prop := fun x => br (asB x = some want) (dbe P K re r d op ty τ ρ h) (dbu P K re r d τ ρ h)
theorem dq_ap {K : Env → Heap → Prop} {r : List (Sop × List Sop)} {d : Option (Nat × Bool)} {τ ρ : Env} {h : Heap} {v : Value} : dq P K r d τ ρ h v = vcDraw P K r (putT d v τ) (putR d v ρ) h := _root_.id rfl
theorem de_ap {K : Env → Heap → Prop} {re : List Sop} {r : List (Sop × List Sop)} {d : Option (Nat × Bool)} {τ ρ : Env} {h : Heap} {v : Value} : de P K re r d τ ρ v h = (stills P re (putT d v τ) (putR d v ρ) h ∧ vcDraw P K r (putT d v τ) (putR d v ρ) h) := _root_.id rfl
theorem dbq_ap {K : Env → Heap → Prop} {r : List (Sop × List Sop)} {d : Option (Nat × Bool)} {op : Op} {ty : TypeId} {τ ρ : Env} {h : Heap} {u : Unit} : dbq P K r d op ty τ ρ h u = OptK (rdo P op ty τ ρ h) (dq P K r d τ ρ h) := _root_.id rfl
theorem dbe_ap {K : Env → Heap → Prop} {re : List Sop} {r : List (Sop × List Sop)} {d : Option (Nat × Bool)} {op : Op} {ty : TypeId} {τ ρ : Env} {h : Heap} {u : Unit} : dbe P K re r d op ty τ ρ h u = eff P op ty τ ρ h (de P K re r d τ ρ) := _root_.id rfl
theorem dbu_ap {K : Env → Heap → Prop} {re : List Sop} {r : List (Sop × List Sop)} {d : Option (Nat × Bool)} {τ ρ : Env} {h : Heap} {u : Unit} : dbu P K re r d τ ρ h u = (stills P re (putT d undef τ) (putR d undef ρ) h ∧ vcDraw P K r (putT d undef τ) (putR d undef ρ) h) := _root_.id rfl
theorem dgq_ap {K : Env → Heap → Prop} {r : List (Sop × List Sop)} {d : Option (Nat × Bool)} {op : Op} {ty : TypeId} {want : Bool} {τ ρ : Env} {h : Heap} {x : Value} : dgq P K r d op ty want τ ρ h x = br (asB x = some want) (dbq P K r d op ty τ ρ h) (dbu P K [] r d τ ρ h) := _root_.id rfl
theorem dge_ap {K : Env → Heap → Prop} {re : List Sop} {r : List (Sop × List Sop)} {d : Option (Nat × Bool)} {op : Op} {ty : TypeId} {want : Bool} {τ ρ : Env} {h : Heap} {x : Value} : dge P K re r d op ty want τ ρ h x = br (asB x = some want) (dbe P K re r d op ty τ ρ h) (dbu P K re r d τ ρ h) := _root_.id rfl
theorem drw_q {K : Env → Heap → Prop} {τ ρ : Env} {h : Heap} {d : Option (Nat × Bool)} {op : Op} {ty : TypeId} {r : List (Sop × List Sop)} :
    vcDraw P K ((⟨d, op, ty, none, true⟩, []) :: r) τ ρ h = OptK (rdo P op ty τ ρ h) (dq P K r d τ ρ h) := by
  show vcOne P _ τ ρ h _ = _
  simp only [vcOne, vcRun, if_true, rdOp_eq, stills, true_and]; cases rdo P op ty τ ρ h <;> rfl
theorem drw_e {K : Env → Heap → Prop} {τ ρ : Env} {h : Heap} {d : Option (Nat × Bool)} {op : Op} {ty : TypeId} {re : List Sop} {r : List (Sop × List Sop)} :
    vcDraw P K ((⟨d, op, ty, none, false⟩, re) :: r) τ ρ h = eff P op ty τ ρ h (de P K re r d τ ρ) := by
  show vcOne P _ τ ρ h _ = _
  simp only [vcOne, vcRun, Bool.false_eq_true, if_false, vcOp_eq]; rfl
theorem drw_gq {K : Env → Heap → Prop} {τ ρ : Env} {h : Heap} {d : Option (Nat × Bool)} {op : Op} {ty : TypeId} {r : List (Sop × List Sop)} {g : Nat} {want : Bool} :
    vcDraw P K ((⟨d, op, ty, some (g, want), true⟩, []) :: r) τ ρ h = OptK (lk τ ρ g) (dgq P K r d op ty want τ ρ h) := by
  show vcOne P _ τ ρ h _ = _
  simp only [vcOne, vcRun, if_true, stills, true_and, rdOp_eq]
  cases lk τ ρ g with
  | none => rfl
  | some x => by_cases hx : asB x = some want <;> simp only [hx, br, OptK, dgq, dbq, dbu, dq, stills] <;> cases rdo P op ty τ ρ h <;> simp [hx]
theorem drw_ge {K : Env → Heap → Prop} {τ ρ : Env} {h : Heap} {d : Option (Nat × Bool)} {op : Op} {ty : TypeId} {re : List Sop} {r : List (Sop × List Sop)} {g : Nat} {want : Bool} :
    vcDraw P K ((⟨d, op, ty, some (g, want), false⟩, re) :: r) τ ρ h = OptK (lk τ ρ g) (dge P K re r d op ty want τ ρ h) := by
  show vcOne P _ τ ρ h _ = _
  simp only [vcOne, vcRun, Bool.false_eq_true, if_false, vcOp_eq]
  cases lk τ ρ g with
  | none => rfl
  | some x => by_cases hx : asB x = some want <;> simp [hx, br, OptK, dge, dbe, dbu] <;> rfl
theorem vc_tree {Q : Ex → Env → Heap → Prop} {ρ : Env} {h : Heap} {t : Dt} : Cd.vc P (.tree t) Q ρ h = vcT P (Q .normal) t [] ρ h := _root_.id rfl
theorem tr_both {K : Env → Heap → Prop} {τ ρ : Env} {h : Heap} {a b : Dt} : vcT P K (.both a b) τ ρ h = (vcT P K a τ ρ h ∧ vcT P K b τ ρ h) := _root_.id rfl
theorem tr_done {K : Env → Heap → Prop} {τ ρ : Env} {h : Heap} : vcT P K .done τ ρ h = K ρ h := _root_.id rfl
def tq (P : Program) (K : Env → Heap → Prop) (r : Dt) (d : Option (Nat × Bool)) (τ ρ : Env) (h : Heap) : Value → Prop := fun v => vcT P K r (putT d v τ) (putR d v ρ) h
def te (P : Program) (K : Env → Heap → Prop) (re : List Sop) (r : Dt) (d : Option (Nat × Bool)) (τ ρ : Env) : Value → Heap → Prop := fun v h' => stills P re (putT d v τ) (putR d v ρ) h' ∧ vcT P K r (putT d v τ) (putR d v ρ) h'
def tbq (P : Program) (K : Env → Heap → Prop) (r : Dt) (d : Option (Nat × Bool)) (op : Op) (ty : TypeId) (τ ρ : Env) (h : Heap) : Unit → Prop := fun _ => OptK (rdo P op ty τ ρ h) (tq P K r d τ ρ h)
def tbe (P : Program) (K : Env → Heap → Prop) (re : List Sop) (r : Dt) (d : Option (Nat × Bool)) (op : Op) (ty : TypeId) (τ ρ : Env) (h : Heap) : Unit → Prop := fun _ => eff P op ty τ ρ h (te P K re r d τ ρ)
def tbu (P : Program) (K : Env → Heap → Prop) (re : List Sop) (r : Dt) (d : Option (Nat × Bool)) (τ ρ : Env) (h : Heap) : Unit → Prop := fun _ => stills P re (putT d undef τ) (putR d undef ρ) h ∧ vcT P K r (putT d undef τ) (putR d undef ρ) h
def tgq (P : Program) (K : Env → Heap → Prop) (r : Dt) (d : Option (Nat × Bool)) (op : Op) (ty : TypeId) (want : Bool) (τ ρ : Env) (h : Heap) : Value → Prop := fun x => br (asB x = some want) (tbq P K r d op ty τ ρ h) (tbu P K [] r d τ ρ h)
def tge (P : Program) (K : Env → Heap → Prop) (re : List Sop) (r : Dt) (d : Option (Nat × Bool)) (op : Op) (ty : TypeId) (want : Bool) (τ ρ : Env) (h : Heap) : Value → Prop := fun x => br (asB x = some want) (tbe P K re r d op ty τ ρ h) (tbu P K re r d τ ρ h)
theorem tq_ap {K : Env → Heap → Prop} {r : Dt} {d : Option (Nat × Bool)} {τ ρ : Env} {h : Heap} {v : Value} : tq P K r d τ ρ h v = vcT P K r (putT d v τ) (putR d v ρ) h := _root_.id rfl
theorem te_ap {K : Env → Heap → Prop} {re : List Sop} {r : Dt} {d : Option (Nat × Bool)} {τ ρ : Env} {h : Heap} {v : Value} : te P K re r d τ ρ v h = (stills P re (putT d v τ) (putR d v ρ) h ∧ vcT P K r (putT d v τ) (putR d v ρ) h) := _root_.id rfl
theorem tbq_ap {K : Env → Heap → Prop} {r : Dt} {d : Option (Nat × Bool)} {op : Op} {ty : TypeId} {τ ρ : Env} {h : Heap} {u : Unit} : tbq P K r d op ty τ ρ h u = OptK (rdo P op ty τ ρ h) (tq P K r d τ ρ h) := _root_.id rfl
theorem tbe_ap {K : Env → Heap → Prop} {re : List Sop} {r : Dt} {d : Option (Nat × Bool)} {op : Op} {ty : TypeId} {τ ρ : Env} {h : Heap} {u : Unit} : tbe P K re r d op ty τ ρ h u = eff P op ty τ ρ h (te P K re r d τ ρ) := _root_.id rfl
theorem tbu_ap {K : Env → Heap → Prop} {re : List Sop} {r : Dt} {d : Option (Nat × Bool)} {τ ρ : Env} {h : Heap} {u : Unit} : tbu P K re r d τ ρ h u = (stills P re (putT d undef τ) (putR d undef ρ) h ∧ vcT P K r (putT d undef τ) (putR d undef ρ) h) := _root_.id rfl
theorem tgq_ap {K : Env → Heap → Prop} {r : Dt} {d : Option (Nat × Bool)} {op : Op} {ty : TypeId} {want : Bool} {τ ρ : Env} {h : Heap} {x : Value} : tgq P K r d op ty want τ ρ h x = br (asB x = some want) (tbq P K r d op ty τ ρ h) (tbu P K [] r d τ ρ h) := _root_.id rfl
theorem tge_ap {K : Env → Heap → Prop} {re : List Sop} {r : Dt} {d : Option (Nat × Bool)} {op : Op} {ty : TypeId} {want : Bool} {τ ρ : Env} {h : Heap} {x : Value} : tge P K re r d op ty want τ ρ h x = br (asB x = some want) (tbe P K re r d op ty τ ρ h) (tbu P K re r d τ ρ h) := _root_.id rfl
theorem tr_q {K : Env → Heap → Prop} {τ ρ : Env} {h : Heap} {d : Option (Nat × Bool)} {op : Op} {ty : TypeId} {r : Dt} :
    vcT P K (.run ⟨d, op, ty, none, true⟩ [] r) τ ρ h = OptK (rdo P op ty τ ρ h) (tq P K r d τ ρ h) := by
  show vcOne P _ τ ρ h _ = _
  simp only [vcOne, vcRun, if_true, rdOp_eq, stills, true_and]; cases rdo P op ty τ ρ h <;> rfl
theorem tr_e {K : Env → Heap → Prop} {τ ρ : Env} {h : Heap} {d : Option (Nat × Bool)} {op : Op} {ty : TypeId} {re : List Sop} {r : Dt} :
    vcT P K (.run ⟨d, op, ty, none, false⟩ re r) τ ρ h = eff P op ty τ ρ h (te P K re r d τ ρ) := by
  show vcOne P _ τ ρ h _ = _
  simp only [vcOne, vcRun, Bool.false_eq_true, if_false, vcOp_eq]; rfl
theorem tr_gq {K : Env → Heap → Prop} {τ ρ : Env} {h : Heap} {d : Option (Nat × Bool)} {op : Op} {ty : TypeId} {r : Dt} {g : Nat} {want : Bool} :
    vcT P K (.run ⟨d, op, ty, some (g, want), true⟩ [] r) τ ρ h = OptK (lk τ ρ g) (tgq P K r d op ty want τ ρ h) := by
  show vcOne P _ τ ρ h _ = _
  simp only [vcOne, vcRun, if_true, stills, true_and, rdOp_eq]
  cases lk τ ρ g with
  | none => rfl
  | some x => by_cases hx : asB x = some want <;> simp only [hx, br, OptK, tgq, tbq, tbu, tq, stills] <;> cases rdo P op ty τ ρ h <;> simp [hx]
theorem tr_ge {K : Env → Heap → Prop} {τ ρ : Env} {h : Heap} {d : Option (Nat × Bool)} {op : Op} {ty : TypeId} {re : List Sop} {r : Dt} {g : Nat} {want : Bool} :
    vcT P K (.run ⟨d, op, ty, some (g, want), false⟩ re r) τ ρ h = OptK (lk τ ρ g) (tge P K re r d op ty want τ ρ h) := by
  show vcOne P _ τ ρ h _ = _
  simp only [vcOne, vcRun, Bool.false_eq_true, if_false, vcOp_eq]
  cases lk τ ρ g with
  | none => rfl
  | some x => by_cases hx : asB x = some want <;> simp [hx, br, OptK, tge, tbe, tbu] <;> rfl
theorem stills_nil {τ ρ : Env} {h : Heap} : stills P [] τ ρ h = True := _root_.id rfl
theorem stills_cons {τ ρ : Env} {h : Heap} {t : Nat} {l : Bool} {op : Op} {ty : TypeId} {q : Bool} {r : List Sop} :
    stills P (⟨some (t, l), op, ty, none, q⟩ :: r) τ ρ h = ((rdo P op ty τ ρ h = lk τ ρ t ∧ (lk τ ρ t).isSome = true) ∧ stills P r τ ρ h) := rfl
theorem stills_gcons {τ ρ : Env} {h : Heap} {t : Nat} {l : Bool} {op : Op} {ty : TypeId} {q : Bool} {r : List Sop} {g : Nat} {want : Bool} :
    stills P (⟨some (t, l), op, ty, some (g, want), q⟩ :: r) τ ρ h = (OptK (lk τ ρ g) (fun v => asB v = some want → rdo P op ty τ ρ h = lk τ ρ t ∧ (lk τ ρ t).isSome = true) ∧ stills P r τ ρ h) := by
  simp only [stills, still, rdOp_eq]
  cases lk τ ρ g <;> rfl

theorem asB_bool {b : Bool} : asB (.bool b) = some b := _root_.id rfl
theorem asB_undef : asB undef = none := _root_.id rfl

/-- One operand; two; three. -/
theorem known_1 {τ ρ : Env} {op : Op} {x : Operand} (h : op.operands = #[x]) : known τ ρ op ↔ (evo τ ρ x).isSome = true := by simp [known, h]
theorem known_2 {τ ρ : Env} {op : Op} {x y : Operand} (h : op.operands = #[x, y]) : known τ ρ op ↔ (evo τ ρ x).isSome = true ∧ (evo τ ρ y).isSome = true := by simp [known, h]

theorem rdo_1 {op : Op} {ty : TypeId} {τ ρ : Env} {h : Heap} {x : Operand} (ho : op.operands = #[x]) (f : Value → Option Value)
    (hf : ∀ e : Operand → Value, valOf (rd P (execOp e (Sop.oper ⟨none, op, ty, none, true⟩)) h) = f (e x)) : rdo P op ty τ ρ h = (evo τ ρ x).bind f := by
  unfold rdo rdOp
  cases hx : evo τ ρ x with
  | none => rw [if_neg (by rw [known_1 ho]; simp [hx])]; rfl
  | some v => rw [if_pos (by rw [known_1 ho]; simp [hx]), hf]; simp [evd, hx]
theorem rdo_2 {op : Op} {ty : TypeId} {τ ρ : Env} {h : Heap} {x y : Operand} (ho : op.operands = #[x, y]) (f : Value → Value → Option Value)
    (hf : ∀ e : Operand → Value, valOf (rd P (execOp e (Sop.oper ⟨none, op, ty, none, true⟩)) h) = f (e x) (e y)) : rdo P op ty τ ρ h = (evo τ ρ x).bind fun a => (evo τ ρ y).bind fun b => f a b := by
  unfold rdo rdOp
  cases hx : evo τ ρ x with
  | none => rw [if_neg (by rw [known_2 ho]; simp [hx])]; rfl
  | some v =>
    cases hy : evo τ ρ y with
    | none => rw [if_neg (by rw [known_2 ho]; simp [hy])]; rfl
    | some u => rw [if_pos (by rw [known_2 ho]; simp [hx, hy]), hf]; simp [evd, hx, hy]

theorem valOf_v {s : Sem Value} {h : Heap} : valOf (rd P (do pure (Next.value (← s))) h) = rd P s h := by
  rw [rd_bind']; cases rd P s h <;> rfl

theorem rdo_move {x : Operand} {ty : TypeId} {τ ρ : Env} {h : Heap} : rdo P (.move x) ty τ ρ h = evo τ ρ x := by
  rw [rdo_1 (x := x) rfl some fun e => rfl]; cases evo τ ρ x <;> rfl
theorem rdo_assign {x : Operand} {ty : TypeId} {τ ρ : Env} {h : Heap} : rdo P (.assign x) ty τ ρ h = evo τ ρ x := by
  rw [rdo_1 (x := x) rfl some fun e => rfl]; cases evo τ ρ x <;> rfl
def pickV (c a b : Value) : Option Value := match asB c with
  | some t => some (if t = true then a else b)
  | none => none
theorem pickV_bool {t : Bool} {a b : Value} : pickV (.bool t) a b = some (if t = true then a else b) := _root_.id rfl
theorem rdo_pick {c x y : Operand} {ty : TypeId} {τ ρ : Env} {h : Heap} : rdo P (.pick c x y) ty τ ρ h = (evo τ ρ c).bind fun vc => (evo τ ρ x).bind fun a => (evo τ ρ y).bind fun b => pickV vc a b := by
  unfold rdo rdOp
  have hk : known τ ρ (.pick c x y) ↔ (evo τ ρ c).isSome = true ∧ (evo τ ρ x).isSome = true ∧ (evo τ ρ y).isSome = true := by simp [known, Op.operands]
  cases hc : evo τ ρ c with
  | none => rw [if_neg (by rw [hk]; simp [hc])]; rfl
  | some vc =>
    cases hx : evo τ ρ x with
    | none => rw [if_neg (by rw [hk]; simp [hx])]; rfl
    | some vx =>
      cases hy : evo τ ρ y with
      | none => rw [if_neg (by rw [hk]; simp [hy])]; rfl
      | some vy =>
        rw [if_pos (by rw [hk]; simp [hc, hx, hy])]
        simp only [execOp, Sop.oper, evd, hc, hx, hy, Option.getD_some, Option.bind_some, rd_bind', pickV]
        cases vc <;> first | rfl | (simp only [asBool, asB]; cases ‹Bool› <;> rfl)
def exV (v : Value) (i : Nat) : Option Value := match v with
  | .tuple vs => vs[i]?
  | _ => none
theorem exV_tuple {vs : Array Value} {i : Nat} : exV (.tuple vs) i = vs[i]? := _root_.id rfl
theorem rdo_extract {x : Operand} {i : Nat} {ty : TypeId} {τ ρ : Env} {h : Heap} : rdo P (.extract x i) ty τ ρ h = (evo τ ρ x).bind fun v => exV v i := by
  rw [rdo_1 (x := x) rfl (fun v => exV v i) fun e => ?_]
  simp only [execOp, Sop.oper, valOf_v]
  generalize e x = v
  cases v <;> first | rfl | skip
  rename_i vs
  simp only [Instr.extract, exV]
  cases vs[i]? <;> rfl
def binE (P : Program) (op : BinOp) (t : TypeId) (x y : Operand) (a b : Value) (h : Heap) : Option Value := rd P (do eqGuard op t x y a b; binOp op t a b) h
theorem rdo_bin {op : BinOp} {t yt : TypeId} {x y : Operand} {ty : TypeId} {τ ρ : Env} {h : Heap} : rdo P (.binOp op t x y yt) ty τ ρ h = (evo τ ρ x).bind fun a => (evo τ ρ y).bind fun b => binE P op t x y a b h := by
  rw [rdo_2 (x := x) (y := y) rfl (fun a b => binE P op t x y a b h) fun e => ?_]
  simp only [execOp, Sop.oper, valOf_v]; rfl
def unE (P : Program) (op : UnOp) (a : Value) (h : Heap) : Option Value := rd P (Op.unary op a) h
theorem rdo_un {op : UnOp} {t : TypeId} {x : Operand} {ty : TypeId} {τ ρ : Env} {h : Heap} : rdo P (.unOp op t x) ty τ ρ h = (evo τ ρ x).bind fun a => unE P op a h := by
  rw [rdo_1 (x := x) rfl (fun a => unE P op a h) fun e => ?_]
  simp only [execOp, Sop.oper, valOf_v]; rfl
def cvE (P : Program) (s d : TypeId) (a : Value) (h : Heap) : Option Value := rd P (convert s d a) h
theorem rdo_cv {s d : TypeId} {x : Operand} {ty : TypeId} {τ ρ : Env} {h : Heap} : rdo P (.convert s d x) ty τ ρ h = (evo τ ρ x).bind fun a => cvE P s d a h := by
  rw [rdo_1 (x := x) rfl (fun a => cvE P s d a h) fun e => ?_]
  simp only [execOp, Sop.oper, valOf_v]; rfl
def ldE (P : Program) (t : TypeId) (a : Value) (h : Heap) : Option Value := rd P (Instr.loadAt t a) h
def ld (P : Program) (t : TypeId) (a : Addr) (h : Heap) : Option Value := rd P (loadVar t a) h
theorem cellV_ld {ty : TypeId} {a : Addr} {h : Heap} : cellV P ty h (.pointer (some a)) = ld P ty a h := _root_.id rfl
theorem rdo_ld {t : TypeId} {x : Operand} {ty : TypeId} {τ ρ : Env} {h : Heap} : rdo P (.load t x) ty τ ρ h = (evo τ ρ x).bind fun a => ldE P t a h := by
  rw [rdo_1 (x := x) rfl (fun a => ldE P t a h) fun e => ?_]
  simp only [execOp, Sop.oper, valOf_v]; rfl
theorem ldE_ptr {t : TypeId} {a : Addr} {h : Heap} : ldE P t (.pointer (some a)) h = ld P t a h := _root_.id rfl
def faE (P : Program) (s : TypeId) (a : Value) (f : Nat) (h : Heap) : Option Value := rd P (Instr.fieldAt s a f) h
theorem rdo_fa {s : TypeId} {f : Nat} {x : Operand} {ty : TypeId} {τ ρ : Env} {h : Heap} : rdo P (.fieldAddr s x f) ty τ ρ h = (evo τ ρ x).bind fun a => faE P s a f h := by
  rw [rdo_1 (x := x) rfl (fun a => faE P s a f h) fun e => ?_]
  simp only [execOp, Sop.oper, valOf_v]; rfl
def fdE (P : Program) (s : TypeId) (a : Value) (f : Nat) (h : Heap) : Option Value := rd P (Instr.field s a f) h
theorem rdo_fd {s : TypeId} {f : Nat} {x : Operand} {ty : TypeId} {τ ρ : Env} {h : Heap} : rdo P (.field s x f) ty τ ρ h = (evo τ ρ x).bind fun a => fdE P s a f h := by
  rw [rdo_1 (x := x) rfl (fun a => fdE P s a f h) fun e => ?_]
  simp only [execOp, Sop.oper, valOf_v]; rfl
def iaE (P : Program) (t : TypeId) (a i : Value) (h : Heap) : Option Value := rd P (Instr.indexAt t a i) h
theorem rdo_ia {t : TypeId} {x i : Operand} {ty : TypeId} {τ ρ : Env} {h : Heap} : rdo P (.indexAddr t x i) ty τ ρ h = (evo τ ρ x).bind fun a => (evo τ ρ i).bind fun b => iaE P t a b h := by
  rw [rdo_2 (x := x) (y := i) rfl (fun a b => iaE P t a b h) fun e => ?_]
  simp only [execOp, Sop.oper, valOf_v]; rfl
def ixE (P : Program) (t : TypeId) (a i : Value) (h : Heap) : Option Value := rd P (Instr.index t a i) h
theorem rdo_ix {t : TypeId} {x i : Operand} {ty : TypeId} {τ ρ : Env} {h : Heap} : rdo P (.index t x i) ty τ ρ h = (evo τ ρ x).bind fun a => (evo τ ρ i).bind fun b => ixE P t a b h := by
  rw [rdo_2 (x := x) (y := i) rfl (fun a b => ixE P t a b h) fun e => ?_]
  simp only [execOp, Sop.oper, valOf_v]; rfl
def lkE (P : Program) (t : TypeId) (a i : Value) (ok : Bool) (h : Heap) : Option Value := rd P (Instr.lookup t a i ok) h
theorem rdo_lookup {t : TypeId} {x i : Operand} {ok : Bool} {ty : TypeId} {τ ρ : Env} {h : Heap} : rdo P (.lookup t x i ok) ty τ ρ h = (evo τ ρ x).bind fun a => (evo τ ρ i).bind fun b => lkE P t a b ok h := by
  rw [rdo_2 (x := x) (y := i) rfl (fun a b => lkE P t a b ok h) fun e => ?_]
  simp only [execOp, Sop.oper, valOf_v]; rfl
def lenE (P : Program) (t ty : TypeId) (a : Value) (h : Heap) : Option Value := rd P (Builtin.len_ #[t] ty #[a]) h
theorem rdo_len {t : TypeId} {x : Operand} {ty : TypeId} {τ ρ : Env} {h : Heap} : rdo P (.call { callee := .builtin .len, args := #[x], argTypes := #[t] }) ty τ ρ h = (evo τ ρ x).bind fun a => lenE P t ty a h := by
  rw [rdo_1 (x := x) (by rfl) (fun a => lenE P t ty a h) fun e => ?_]
  simp only [execOp, Sop.oper, resolve, invoke, builtin, rd_bind', rd_pure, Option.bind_some, List.map_toArray, List.map_cons, List.map_nil]
  show valOf ((rd P (Builtin.len_ #[t] ty #[e x]) h).bind fun v => rd P (pure (Next.value v)) h) = _
  unfold lenE
  cases rd P (Builtin.len_ #[t] ty #[e x]) h <;> rfl
def slE (P : Program) (t : TypeId) (a : Value) (lo hi mx : Option Value) (h : Heap) : Option Value := rd P (Instr.sliceAt t a lo hi mx) h
theorem rdo_sl_n {t : TypeId} {x : Operand} {ty : TypeId} {τ ρ : Env} {h : Heap} : rdo P (.slice t x none none none) ty τ ρ h = (evo τ ρ x).bind fun a => slE P t a none none none h := by
  rw [rdo_1 (x := x) (by rfl) (fun a => slE P t a none none none h) fun e => ?_]
  simp only [execOp, Sop.oper, valOf_v]; rfl
theorem rdo_sl_l {t : TypeId} {x l : Operand} {ty : TypeId} {τ ρ : Env} {h : Heap} : rdo P (.slice t x (some l) none none) ty τ ρ h = (evo τ ρ x).bind fun a => (evo τ ρ l).bind fun b => slE P t a (some b) none none h := by
  rw [rdo_2 (x := x) (y := l) (by rfl) (fun a b => slE P t a (some b) none none h) fun e => ?_]
  simp only [execOp, Sop.oper, valOf_v]; rfl
theorem rdo_sl_h {t : TypeId} {x u : Operand} {ty : TypeId} {τ ρ : Env} {h : Heap} : rdo P (.slice t x none (some u) none) ty τ ρ h = (evo τ ρ x).bind fun a => (evo τ ρ u).bind fun b => slE P t a none (some b) none h := by
  rw [rdo_2 (x := x) (y := u) (by rfl) (fun a b => slE P t a none (some b) none h) fun e => ?_]
  simp only [execOp, Sop.oper, valOf_v]; rfl
theorem rdo_sl_lh {t : TypeId} {x l u : Operand} {ty : TypeId} {τ ρ : Env} {h : Heap} : rdo P (.slice t x (some l) (some u) none) ty τ ρ h = (evo τ ρ x).bind fun a => (evo τ ρ l).bind fun b => (evo τ ρ u).bind fun c => slE P t a (some b) (some c) none h := by
  unfold rdo rdOp
  have hk : known τ ρ (.slice t x (some l) (some u) none) ↔ (evo τ ρ x).isSome = true ∧ (evo τ ρ l).isSome = true ∧ (evo τ ρ u).isSome = true := by simp [known, Op.operands]
  cases hc : evo τ ρ x with
  | none => rw [if_neg (by rw [hk]; simp [hc])]; rfl
  | some vc =>
    cases hx : evo τ ρ l with
    | none => rw [if_neg (by rw [hk]; simp [hx])]; rfl
    | some vx =>
      cases hy : evo τ ρ u with
      | none => rw [if_neg (by rw [hk]; simp [hy])]; rfl
      | some vy =>
        rw [if_pos (by rw [hk]; simp [hc, hx, hy])]
        simp only [execOp, Sop.oper, evd, hc, hx, hy, Option.getD_some, Option.bind_some, valOf_v, Option.map_some]; rfl
def ncV : Value → Option Value
  | .pointer (some a) => some (.pointer (some a))
  | _ => none
theorem ncV_ptr {a : Addr} : ncV (.pointer (some a)) = some (.pointer (some a)) := _root_.id rfl
def ncE (P : Program) (a : Value) (h : Heap) : Option Value := valOf (rd P (execOp (fun _ => a) (Sop.oper ⟨none, .nilCheck (.tmp 0), 0, none, true⟩)) h)
theorem ncE_ptr {a : Addr} {h : Heap} : ncE P (.pointer (some a)) h = some (.pointer (some a)) := _root_.id rfl
theorem rdo_nc {x : Operand} {ty : TypeId} {τ ρ : Env} {h : Heap} : rdo P (.nilCheck x) ty τ ρ h = (evo τ ρ x).bind fun a => ncE P a h := by
  rw [rdo_1 (x := x) rfl (fun a => ncE P a h) fun e => ?_]
  rfl
/-- Lists of operands. -/
def evs (τ ρ : Env) : List Operand → Option (List Value)
  | [] => some []
  | x :: r => (evo τ ρ x).bind fun v => (evs τ ρ r).map fun l => v :: l
theorem evs_nil {τ ρ : Env} : evs τ ρ [] = some [] := _root_.id rfl
theorem evs_cons {τ ρ : Env} {x : Operand} {r : List Operand} : evs τ ρ (x :: r) = (evo τ ρ x).bind fun v => (evs τ ρ r).map fun l => v :: l := _root_.id rfl
theorem evs_some {τ ρ : Env} : ∀ (l : List Operand) (vs : List Value), evs τ ρ l = some vs → (∀ x ∈ l, (evo τ ρ x).isSome = true) ∧ l.map (evd τ ρ) = vs := by
  intro l
  induction l with
  | nil => intro vs h; cases h; exact ⟨by simp, rfl⟩
  | cons x r ih =>
    intro vs h
    simp only [evs] at h
    cases hx : evo τ ρ x with
    | none => rw [hx] at h; cases h
    | some v =>
      rw [hx] at h
      cases hr : evs τ ρ r with
      | none => rw [hr] at h; cases h
      | some l' =>
        rw [hr] at h; cases h
        obtain ⟨h1, h2⟩ := ih l' hr
        refine ⟨?_, by simp [evd, hx, ← h2]⟩
        intro y hy
        rcases List.mem_cons.1 hy with hy | hy
        · rw [hy, hx]; rfl
        · exact h1 y hy

theorem known_list {τ ρ : Env} {op : Op} {l : List Operand} {vs : List Value} (ho : op.operands.toList = l) (hv : evs τ ρ l = some vs) : known τ ρ op := by
  intro x hx
  exact (evs_some l vs hv).1 x (by rw [← ho]; simpa using hx)
def mkF (fn : Fn) (vs : List Value) : Option Value := some (.func fn #[] vs.toArray)
theorem rdo_mkfunc {fn : Fn} {cap : List Operand} {ty : TypeId} {τ ρ : Env} {h : Heap} : rdo P (.makeFunc fn #[] cap.toArray) ty τ ρ h = (evs τ ρ cap).bind (mkF fn) := by
  unfold rdo rdOp
  have hk : known τ ρ (.makeFunc fn #[] cap.toArray) ↔ ∀ x ∈ cap, (evo τ ρ x).isSome = true := by simp [known, Op.operands]
  cases hv : evs τ ρ cap with
  | some vs =>
    obtain ⟨h1, h2⟩ := evs_some cap vs hv
    rw [if_pos (hk.2 h1)]
    simp only [execOp, Sop.oper, List.map_toArray, h2]
    rfl
  | none =>
    rw [if_neg]
    · rfl
    · intro hh
      have h1 := hk.1 hh
      have : ∀ (l : List Operand), (∀ x ∈ l, (evo τ ρ x).isSome = true) → ∃ vs, evs τ ρ l = some vs := by
        intro l
        induction l with
        | nil => intro _; exact ⟨[], rfl⟩
        | cons x r ih =>
          intro hx
          obtain ⟨v, hv⟩ := Option.isSome_iff_exists.1 (hx x List.mem_cons_self)
          obtain ⟨vs, hvs⟩ := ih fun y hy => hx y (List.mem_cons_of_mem _ hy)
          exact ⟨v :: vs, by simp [evs, hv, hvs]⟩
      obtain ⟨vs, hvs⟩ := this cap h1
      rw [hv] at hvs; cases hvs
theorem mkF_ap {fn : Fn} {vs : List Value} : mkF fn vs = some (.func fn #[] vs.toArray) := _root_.id rfl
def callable (P : Program) (f : FuncId) : Bool := match P.funcs[f]? with
  | some fn => fn.body.isSome && !(fn.name == "runtime.NumGoroutine")
  | none => false
theorem hr_callFunc {f : FuncId} (hc : callable P f = true) (args : Array Value) (h : Heap) (K : Next → Heap → Prop) : hr P (callFunc f args) h K = K (.enter f args) h := by
  unfold callable at hc
  cases hf : P.funcs[f]? with
  | none => rw [hf] at hc; cases hc
  | some fn =>
    rw [hf] at hc
    simp only [Bool.and_eq_true, Bool.not_eq_true'] at hc
    unfold callFunc
    rw [hr_bind']
    show hr P (match P.funcs[f]? with | none => _ | some fn => _) h K = _
    rw [hf]
    simp only [hc.2, Bool.false_eq_true, if_false]
    have hb : fn.body.isNone = false := by cases hx : fn.body with
      | none => rw [hx] at hc; cases hc.1
      | some c => rfl
    simp only [hb, Bool.false_eq_true, if_false]
    rfl
/-- A call of a function value. -/
def callV (P : Program) (f : Value) (vs : List Value) (h : Heap) (K : Value → Heap → Prop) : Prop := match f with
  | .func (.func g) first cap => callable P g = true ∧ HCalls P g (first ++ vs.toArray ++ cap) h K
  | _ => False
theorem callV_fn {g : FuncId} {first cap : Array Value} {vs : List Value} {h : Heap} {K : Value → Heap → Prop} : callV P (.func (.func g) first cap) vs h K = (callable P g = true ∧ HCalls P g (first.toList ++ vs ++ cap.toList).toArray h K) := by
  rw [show (first.toList ++ vs ++ cap.toList).toArray = first ++ vs.toArray ++ cap by apply Array.toList_inj.1; simp]; rfl
def kcall (P : Program) (h : Heap) (K : Value → Heap → Prop) (fv : Value) : List Value → Prop := fun vs => callV P fv vs h K
def kcalf (P : Program) (τ ρ : Env) (args : List Operand) (h : Heap) (K : Value → Heap → Prop) : Value → Prop := fun fv => OptK (evs τ ρ args) (kcall P h K fv)
theorem kcall_ap {h : Heap} {K : Value → Heap → Prop} {fv : Value} {vs : List Value} : kcall P h K fv vs = callV P fv vs h K := _root_.id rfl
theorem kcalf_ap {τ ρ : Env} {args : List Operand} {h : Heap} {K : Value → Heap → Prop} {fv : Value} : kcalf P τ ρ args h K fv = OptK (evs τ ρ args) (kcall P h K fv) := _root_.id rfl
theorem callV_func {g : FuncId} {first cap : Array Value} {vs : List Value} {h : Heap} {K : Value → Heap → Prop} : callV P (.func (.func g) first cap) vs h K = (callable P g = true ∧ HCalls P g (first ++ vs.toArray ++ cap) h K) := _root_.id rfl
theorem callV_congr {f f' : Value} {vs vs' : List Value} {h h' : Heap} {K : Value → Heap → Prop} (e1 : f = f') (e2 : vs = vs') (e3 : h = h') : callV P f vs h K = callV P f' vs' h' K := by rw [e1, e2, e3]

theorem eff_call_of {f : Operand} {args : List Operand} {ats : Array TypeId} {ty : TypeId} {τ ρ : Env} {h : Heap} {K : Value → Heap → Prop}
    (H : OptK (evo τ ρ f) (kcalf P τ ρ args h K)) : eff P (.call { callee := .value f, args := args.toArray, argTypes := ats }) ty τ ρ h K := by
  cases hf : evo τ ρ f with
  | none => rw [hf] at H; exact H.elim
  | some fv =>
    rw [hf] at H
    simp only [OptK, kcalf] at H
    cases hv : evs τ ρ args with
    | none => rw [hv] at H; exact H.elim
    | some vs =>
      rw [hv] at H
      simp only [kcall] at H
      obtain ⟨k1, k2⟩ := evs_some args vs hv
      cases fv <;> simp only [callV] at H
      rename_i fn first cap
      cases fn <;> simp only [] at H
      rename_i g
      refine ⟨?_, ?_⟩
      · intro x hx
        simp only [Op.operands, Call.operands] at hx
        rcases Array.mem_append.1 hx with hx | hx
        · simp at hx; subst hx; rw [hf]; rfl
        · exact k1 x (by simpa using hx)
      · simp only [execOp, Sop.oper, resolve]
        refine sr_of_hr ?_
        rw [hr_bind']
        have he : evd τ ρ f = .func (.func g) first cap := by simp [evd, hf]
        rw [he]
        show hr P (callFunc g (first ++ args.toArray.map (evd τ ρ) ++ cap)) h _
        rw [hr_callFunc H.1, List.map_toArray, k2]
        exact H.2
end
end Go.Vc

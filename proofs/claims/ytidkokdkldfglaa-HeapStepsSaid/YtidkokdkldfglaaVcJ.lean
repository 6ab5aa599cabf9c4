/- What each operation yields: the rewriting rules of the walk over heaps. No condition. Values: integers, strings, bools; what is read from the heap. No condition. Heaps: what is read, what is made, what is written. No condition. -/
import Derived.Test.YtidkokdkldfglaaVcG
import Derived.WalkKit
import Derived.Deep.AppendSrc
import Derived.Laws.IdiomStrings
import Derived.Laws.CopyRow
namespace Go.Vc
set_option linter.unusedSimpArgs false
set_option linter.unusedVariables false

/-- A parting of ways: nothing behind it is looked at before it is decided. -/
def br (c : Prop) (x y : Unit → Prop) : Prop := (c → x ()) ∧ (¬ c → y ())
theorem br_intro {c : Prop} {x y : Unit → Prop} (h1 : c → x ()) (h2 : ¬ c → y ()) : br c x y := ⟨h1, h2⟩
theorem br_true {x y : Unit → Prop} : br True x y = x () := by simp [br]
theorem br_false {x y : Unit → Prop} : br False x y = y () := by simp [br]
theorem br_congr {c c' : Prop} {x y : Unit → Prop} (h : c = c') : br c x y = br c' x y := by rw [h]
theorem br_not {c : Prop} {x y : Unit → Prop} : br (¬ c) x y = br c y x := by
  unfold br; rw [Classical.not_not]; exact propext ⟨fun h => ⟨h.2, h.1⟩, fun h => ⟨h.2, h.1⟩⟩
theorem br_pos {c : Prop} {x y : Unit → Prop} (hc : c) (h : x ()) : br c x y := ⟨fun _ => h, fun hn => absurd hc hn⟩
theorem br_neg {c : Prop} {x y : Unit → Prop} (hc : ¬ c) (h : y ()) : br c x y := ⟨fun hp => absurd hp hc, fun _ => h⟩

theorem OptK_some {α : Type} {v : α} {K : α → Prop} : OptK (some v) K = K v := _root_.id rfl
theorem OptK_none {α : Type} {K : α → Prop} : OptK none K = False := _root_.id rfl
theorem OptK_congr {α : Type} {o o' : Option α} {K : α → Prop} (h : o = o') : OptK o K = OptK o' K := by rw [h]
theorem OptK_intro {α : Type} {o : Option α} {K : α → Prop} {v : α} (h : o = some v) (hk : K v) : OptK o K := by rw [h]; exact hk
theorem HCalls_congr {P : Program} {f f' : FuncId} {args args' : Array Value} {h h' : Heap} {R : Value → Heap → Prop} (e1 : f = f') (e2 : args = args') (e3 : h = h') : HCalls P f args h R = HCalls P f' args' h' R := by rw [e1, e2, e3]

/-! ### Environments -/
theorem get_nil {t : Nat} : Env.get [] t = none := _root_.id rfl
theorem get_cons {k t : Nat} {v : Value} {r : Env} : Env.get ((k, v) :: r) t = if k = t then some v else Env.get r t := _root_.id rfl
theorem set_nil {t : Nat} {v : Value} : Env.set [] t v = [(t, v)] := _root_.id rfl
theorem set_cons {k t : Nat} {u v : Value} {r : Env} : Env.set ((k, u) :: r) t v = if k = t then (k, v) :: r else (k, u) :: Env.set r t v := _root_.id rfl
theorem keep_nil {ρ : Env} : Env.keep [] ρ = [] := _root_.id rfl
def optc (o : Option Value) (k : Nat) (r : Env) : Env := match o with
  | some v => (k, v) :: r
  | none => r
theorem keep_cons {k : Nat} {ks : List Nat} {ρ : Env} : Env.keep (k :: ks) ρ = optc (Env.get ρ k) k (Env.keep ks ρ) := by
  simp only [Env.keep, optc]; cases Env.get ρ k <;> rfl
theorem optc_some {v : Value} {k : Nat} {r : Env} : optc (some v) k r = (k, v) :: r := _root_.id rfl
theorem optc_none {k : Nat} {r : Env} : optc none k r = r := _root_.id rfl
theorem lk_eq {τ ρ : Env} {t : Nat} : lk τ ρ t = (Env.get τ t).orElse fun _ => Env.get ρ t := by unfold lk; cases Env.get τ t <;> rfl
theorem orElse_some {v : Value} {f : Unit → Option Value} : (some v).orElse f = some v := _root_.id rfl
theorem orElse_none {f : Unit → Option Value} : (none : Option Value).orElse f = f () := _root_.id rfl
theorem evo_tmp {τ ρ : Env} {t : Nat} : evo τ ρ (.tmp t) = lk τ ρ t := _root_.id rfl
theorem evo_const {τ ρ : Env} {v : Value} : evo τ ρ (.const v) = some v := _root_.id rfl
theorem evo_func {τ ρ : Env} {f : Nat} : evo τ ρ (.func f) = some (.func (.func f) #[] #[]) := _root_.id rfl
theorem evo_global {τ ρ : Env} {g : Nat} : evo τ ρ (.global g) = some (.pointer (some ⟨g, 0, none⟩)) := _root_.id rfl
theorem putT_t {t : Nat} {v : Value} {τ : Env} : putT (some (t, false)) v τ = (t, v) :: τ := _root_.id rfl
theorem putT_r {t : Nat} {v : Value} {τ : Env} : putT (some (t, true)) v τ = τ := _root_.id rfl
theorem putT_n {v : Value} {τ : Env} : putT none v τ = τ := _root_.id rfl
theorem putR_t {t : Nat} {v : Value} {ρ : Env} : putR (some (t, false)) v ρ = ρ := _root_.id rfl
theorem putR_r {t : Nat} {v : Value} {ρ : Env} : putR (some (t, true)) v ρ = ρ.set t v := _root_.id rfl
theorem putR_n {v : Value} {ρ : Env} : putR none v ρ = ρ := _root_.id rfl
theorem init_nil {args : List Value} : initEnv args [] = [] := _root_.id rfl
theorem init_cons {args : List Value} {t : Nat} {r : List Nat} : initEnv args (t :: r) = (t, args.getD t undef) :: initEnv args r := _root_.id rfl
theorem getD_nil {t : Nat} {u : Value} : ([] : List Value).getD t u = u := _root_.id rfl
theorem getD_zero {v u : Value} {r : List Value} : (v :: r).getD 0 u = v := _root_.id rfl
theorem getD_succ {t : Nat} {v u : Value} {r : List Value} : (v :: r).getD (t + 1) u = r.getD t u := by simp
theorem gets_nil' {P : Program} {ρ : Env} {h : Heap} : gets P ρ h [] = some [] := _root_.id rfl
theorem res1_t {P : Program} {ρ : Env} {h : Heap} {t : Nat} : res1 P ρ h (t, none) = Env.get ρ t := _root_.id rfl
def cellV (P : Program) (ty : TypeId) (h : Heap) (v : Value) : Option Value := rd P (do loadVar ty (← asAddr v)) h
theorem cellV_ptr {P : Program} {ty : TypeId} {a : Addr} {h : Heap} : cellV P ty h (.pointer (some a)) = rd P (loadVar ty a) h := _root_.id rfl
theorem res1_c {P : Program} {ρ : Env} {h : Heap} {t ty : Nat} : res1 P ρ h (t, some ty) = (Env.get ρ t).bind (cellV P ty h) := _root_.id rfl
theorem gets_cons' {P : Program} {ρ : Env} {h : Heap} {t : Nat × Option TypeId} {r : List (Nat × Option TypeId)} : gets P ρ h (t :: r) = (res1 P ρ h t).bind fun v => (gets P ρ h r).map fun l => v :: l := _root_.id rfl
theorem tup_one {v : Value} : tup [v] = v := _root_.id rfl
theorem tup_nil : tup [] = .tuple #[] := _root_.id rfl
theorem tup_two {v u : Value} {r : List Value} : tup (v :: u :: r) = .tuple (v :: u :: r).toArray := _root_.id rfl

/-! ### Code -/
section
variable {P : Program}
theorem vc_skip {Q : Ex → Env → Heap → Prop} {ρ : Env} {h : Heap} : Cd.vc P .skip Q ρ h = Q .normal ρ h := _root_.id rfl
theorem vc_ret {Q : Ex → Env → Heap → Prop} {ρ : Env} {h : Heap} : Cd.vc P .ret Q ρ h = Q .ret ρ h := _root_.id rfl
theorem vc_exit {Q : Ex → Env → Heap → Prop} {ρ : Env} {h : Heap} {id : Nat} : Cd.vc P (.exit id) Q ρ h = Q (.exit id) ρ h := _root_.id rfl
theorem vc_seq {Q : Ex → Env → Heap → Prop} {ρ : Env} {h : Heap} {a b : Cd} : Cd.vc P (.seq a b) Q ρ h = Cd.vc P a (Ex.thn (Cd.vc P b Q) Q) ρ h := _root_.id rfl
theorem vc_block {Q : Ex → Env → Heap → Prop} {ρ : Env} {h : Heap} {a : Cd} {id : Nat} : Cd.vc P (.block id a) Q ρ h = Cd.vc P a (Ex.inb id Q) ρ h := _root_.id rfl
theorem vc_region {Q : Ex → Env → Heap → Prop} {ρ : Env} {h : Heap} {ops : List Sop} : Cd.vc P (.region ops) Q ρ h = vcOps P (Q .normal) ops [] ρ h := _root_.id rfl
theorem vc_draw {Q : Ex → Env → Heap → Prop} {ρ : Env} {h : Heap} {ops : List (Sop × List Sop)} : Cd.vc P (.draw ops) Q ρ h = vcDraw P (Q .normal) ops [] ρ h := _root_.id rfl
def ct (P : Program) (a : Cd) (Q : Ex → Env → Heap → Prop) (ρ : Env) (h : Heap) : Unit → Prop := fun _ => Cd.vc P a Q ρ h
def cc (P : Program) (a b : Cd) (Q : Ex → Env → Heap → Prop) (ρ : Env) (h : Heap) : Bool → Prop := fun t => br (t = true) (ct P a Q ρ h) (ct P b Q ρ h)
theorem ct_ap {Q : Ex → Env → Heap → Prop} {ρ : Env} {h : Heap} {a : Cd} {u : Unit} : ct P a Q ρ h u = Cd.vc P a Q ρ h := _root_.id rfl
theorem cc_ap {Q : Ex → Env → Heap → Prop} {ρ : Env} {h : Heap} {a b : Cd} {t : Bool} : cc P a b Q ρ h t = br (t = true) (ct P a Q ρ h) (ct P b Q ρ h) := _root_.id rfl
theorem vc_cond {Q : Ex → Env → Heap → Prop} {ρ : Env} {h : Heap} {c : Operand} {a b : Cd} :
    Cd.vc P (.cond c a b) Q ρ h = OptK ((evo [] ρ c).bind asB) (cc P a b Q ρ h) := by
  simp only [Cd.vc]
  cases (evo [] ρ c).bind asB with
  | none => rfl
  | some t => cases t <;> simp [OptK, br, cc, ct]
theorem thn_normal {N : Env → Heap → Prop} {Q : Ex → Env → Heap → Prop} {ρ : Env} {h : Heap} : Ex.thn N Q .normal ρ h = N ρ h := _root_.id rfl
theorem thn_ret {N : Env → Heap → Prop} {Q : Ex → Env → Heap → Prop} {ρ : Env} {h : Heap} : Ex.thn N Q .ret ρ h = Q .ret ρ h := _root_.id rfl
theorem thn_exit {N : Env → Heap → Prop} {Q : Ex → Env → Heap → Prop} {ρ : Env} {h : Heap} {id : Nat} : Ex.thn N Q (.exit id) ρ h = Q (.exit id) ρ h := _root_.id rfl
theorem inb_normal {Q : Ex → Env → Heap → Prop} {ρ : Env} {h : Heap} {id : Nat} : Ex.inb id Q .normal ρ h = Q .normal ρ h := _root_.id rfl
theorem inb_ret {Q : Ex → Env → Heap → Prop} {ρ : Env} {h : Heap} {id : Nat} : Ex.inb id Q .ret ρ h = Q .ret ρ h := _root_.id rfl
theorem inb_exit {Q : Ex → Env → Heap → Prop} {ρ : Env} {h : Heap} {id id' : Nat} : Ex.inb id Q (.exit id') ρ h = if id' = id then Q .normal ρ h else Q (.exit id') ρ h := _root_.id rfl
def cr (R : Value → Heap → Prop) (h : Heap) : List Value → Prop := fun l => R (tup l) h
theorem cr_ap {R : Value → Heap → Prop} {h : Heap} {l : List Value} : cr R h l = R (tup l) h := _root_.id rfl
theorem ret_normal {ts : List (Nat × Option TypeId)} {R : Value → Heap → Prop} {ρ : Env} {h : Heap} : retQ P ts R .normal ρ h = OptK (gets P ρ h ts) (cr R h) := _root_.id rfl
theorem ret_ret {ts : List (Nat × Option TypeId)} {R : Value → Heap → Prop} {ρ : Env} {h : Heap} : retQ P ts R .ret ρ h = OptK (gets P ρ h ts) (cr R h) := _root_.id rfl

/-- What is to hold behind a round. -/
def kback (I : Nat → Env → Heap → Prop) (ks : List Nat) (m : Nat) : Env → Heap → Prop := fun ρ' h' => ∃ m', m' < m ∧ I m' (Env.keep ks ρ') h'
theorem kback_ap {I : Nat → Env → Heap → Prop} {ks : List Nat} {m : Nat} {ρ : Env} {h : Heap} : kback I ks m ρ h = ∃ m', m' < m ∧ I m' (Env.keep ks ρ) h := _root_.id rfl
/-- A loop: its environment is first cut to some slots. -/
theorem loop_intro {Q : Ex → Env → Heap → Prop} {ρ : Env} {h : Heap} {a : Cd} (ks : List Nat) (I : Nat → Env → Heap → Prop) (h0 : ∃ m, I m (Env.keep ks ρ) h)
    (hr : ∀ m ρ h, I m ρ h → Cd.vc P a (Ex.thn (kback I ks m) Q) ρ h) : Cd.vc P (.loop a) Q ρ h := ⟨ks, I, h0, hr⟩

/-! ### Operations -/
def rdo (P : Program) (op : Op) (ty : TypeId) (τ ρ : Env) (h : Heap) : Option Value := rdOp P ⟨none, op, ty, none, true⟩ τ ρ h
def eff (P : Program) (op : Op) (ty : TypeId) (τ ρ : Env) (h : Heap) (K : Value → Heap → Prop) : Prop := vcOp P ⟨none, op, ty, none, false⟩ τ ρ h K

theorem rdOp_eq {d g : Option (Nat × Bool)} {op : Op} {ty : TypeId} {q : Bool} {τ ρ : Env} {h : Heap} : rdOp P ⟨d, op, ty, g, q⟩ τ ρ h = rdo P op ty τ ρ h := by unfold rdo rdOp; rfl
theorem vcOp_eq {d g : Option (Nat × Bool)} {op : Op} {ty : TypeId} {q : Bool} {τ ρ : Env} {h : Heap} {K : Value → Heap → Prop} : vcOp P ⟨d, op, ty, g, q⟩ τ ρ h K = eff P op ty τ ρ h K := by unfold eff vcOp; rfl
theorem ops_nil {K : Env → Heap → Prop} {τ ρ : Env} {h : Heap} : vcOps P K [] τ ρ h = K ρ h := _root_.id rfl
/-- What comes behind an operation, as a constant with arguments: rewriting does not look into it. -/
def kq (P : Program) (K : Env → Heap → Prop) (r : List Sop) (d : Option (Nat × Bool)) (τ ρ : Env) (h : Heap) : Value → Prop := fun v => vcOps P K r (putT d v τ) (putR d v ρ) h
def ke (P : Program) (K : Env → Heap → Prop) (r : List Sop) (d : Option (Nat × Bool)) (τ ρ : Env) : Value → Heap → Prop := fun v h' => vcOps P K r (putT d v τ) (putR d v ρ) h'
def kbq (P : Program) (K : Env → Heap → Prop) (r : List Sop) (d : Option (Nat × Bool)) (op : Op) (ty : TypeId) (τ ρ : Env) (h : Heap) : Unit → Prop := fun _ => OptK (rdo P op ty τ ρ h) (kq P K r d τ ρ h)
def kbe (P : Program) (K : Env → Heap → Prop) (r : List Sop) (d : Option (Nat × Bool)) (op : Op) (ty : TypeId) (τ ρ : Env) (h : Heap) : Unit → Prop := fun _ => eff P op ty τ ρ h (ke P K r d τ ρ)
def kbu (P : Program) (K : Env → Heap → Prop) (r : List Sop) (d : Option (Nat × Bool)) (τ ρ : Env) (h : Heap) : Unit → Prop := fun _ => vcOps P K r (putT d undef τ) (putR d undef ρ) h
def kgq (P : Program) (K : Env → Heap → Prop) (r : List Sop) (d : Option (Nat × Bool)) (op : Op) (ty : TypeId) (want : Bool) (τ ρ : Env) (h : Heap) : Value → Prop := fun x => br (asB x = some want) (kbq P K r d op ty τ ρ h) (kbu P K r d τ ρ h)
def kge (P : Program) (K : Env → Heap → Prop) (r : List Sop) (d : Option (Nat × Bool)) (op : Op) (ty : TypeId) (want : Bool) (τ ρ : Env) (h : Heap) : Value → Prop := fun x => br (asB x = some want) (kbe P K r d op ty τ ρ h) (kbu P K r d τ ρ h)
theorem kq_ap {K : Env → Heap → Prop} {r : List Sop} {d : Option (Nat × Bool)} {τ ρ : Env} {h : Heap} {v : Value} : kq P K r d τ ρ h v = vcOps P K r (putT d v τ) (putR d v ρ) h := _root_.id rfl
theorem ke_ap {K : Env → Heap → Prop} {r : List Sop} {d : Option (Nat × Bool)} {τ ρ : Env} {h : Heap} {v : Value} : ke P K r d τ ρ v h = vcOps P K r (putT d v τ) (putR d v ρ) h := _root_.id rfl
theorem kbq_ap {K : Env → Heap → Prop} {r : List Sop} {d : Option (Nat × Bool)} {op : Op} {ty : TypeId} {τ ρ : Env} {h : Heap} {u : Unit} : kbq P K r d op ty τ ρ h u = OptK (rdo P op ty τ ρ h) (kq P K r d τ ρ h) := _root_.id rfl
theorem kbe_ap {K : Env → Heap → Prop} {r : List Sop} {d : Option (Nat × Bool)} {op : Op} {ty : TypeId} {τ ρ : Env} {h : Heap} {u : Unit} : kbe P K r d op ty τ ρ h u = eff P op ty τ ρ h (ke P K r d τ ρ) := _root_.id rfl
theorem kbu_ap {K : Env → Heap → Prop} {r : List Sop} {d : Option (Nat × Bool)} {τ ρ : Env} {h : Heap} {u : Unit} : kbu P K r d τ ρ h u = vcOps P K r (putT d undef τ) (putR d undef ρ) h := _root_.id rfl
theorem kgq_ap {K : Env → Heap → Prop} {r : List Sop} {d : Option (Nat × Bool)} {op : Op} {ty : TypeId} {want : Bool} {τ ρ : Env} {h : Heap} {x : Value} : kgq P K r d op ty want τ ρ h x = br (asB x = some want) (kbq P K r d op ty τ ρ h) (kbu P K r d τ ρ h) := _root_.id rfl
theorem kge_ap {K : Env → Heap → Prop} {r : List Sop} {d : Option (Nat × Bool)} {op : Op} {ty : TypeId} {want : Bool} {τ ρ : Env} {h : Heap} {x : Value} : kge P K r d op ty want τ ρ h x = br (asB x = some want) (kbe P K r d op ty τ ρ h) (kbu P K r d τ ρ h) := _root_.id rfl
theorem ops_q {K : Env → Heap → Prop} {τ ρ : Env} {h : Heap} {d : Option (Nat × Bool)} {op : Op} {ty : TypeId} {r : List Sop} :
    vcOps P K (⟨d, op, ty, none, true⟩ :: r) τ ρ h = OptK (rdo P op ty τ ρ h) (kq P K r d τ ρ h) := by
  show vcOne P _ τ ρ h _ = _
  simp only [vcOne, vcRun, if_true, rdOp_eq]; cases rdo P op ty τ ρ h <;> rfl
theorem ops_e {K : Env → Heap → Prop} {τ ρ : Env} {h : Heap} {d : Option (Nat × Bool)} {op : Op} {ty : TypeId} {r : List Sop} :
    vcOps P K (⟨d, op, ty, none, false⟩ :: r) τ ρ h = eff P op ty τ ρ h (ke P K r d τ ρ) := by
  show vcOne P _ τ ρ h _ = _
  simp only [vcOne, vcRun, Bool.false_eq_true, if_false, vcOp_eq]; rfl
theorem ops_gq {K : Env → Heap → Prop} {τ ρ : Env} {h : Heap} {d : Option (Nat × Bool)} {op : Op} {ty : TypeId} {r : List Sop} {g : Nat} {want : Bool} :
    vcOps P K (⟨d, op, ty, some (g, want), true⟩ :: r) τ ρ h = OptK (lk τ ρ g) (kgq P K r d op ty want τ ρ h) := by
  show vcOne P _ τ ρ h _ = _
  simp only [vcOne, vcRun, if_true, rdOp_eq]
  cases lk τ ρ g with
  | none => rfl
  | some x => by_cases hx : asB x = some want <;> simp only [hx, br, OptK, kgq, kbq, kbu, kq] <;> cases rdo P op ty τ ρ h <;> simp [hx]
theorem ops_ge {K : Env → Heap → Prop} {τ ρ : Env} {h : Heap} {d : Option (Nat × Bool)} {op : Op} {ty : TypeId} {r : List Sop} {g : Nat} {want : Bool} :
    vcOps P K (⟨d, op, ty, some (g, want), false⟩ :: r) τ ρ h = OptK (lk τ ρ g) (kge P K r d op ty want τ ρ h) := by
  show vcOne P _ τ ρ h _ = _
  simp only [vcOne, vcRun, Bool.false_eq_true, if_false, vcOp_eq]
  cases lk τ ρ g with
  | none => rfl
  | some x => by_cases hx : asB x = some want <;> simp [hx, br, OptK, kge, kbe, kbu] <;> rfl
/-! the same, in a region that draws -/
theorem drw_nil {K : Env → Heap → Prop} {τ ρ : Env} {h : Heap} : vcDraw P K [] τ ρ h = K ρ h := _root_.id rfl
def dq (P : Program) (K : Env → Heap → Prop) (r : List (Sop × List Sop)) (d : Option (Nat × Bool)) (τ ρ : Env) (h : Heap) : Value → Prop := fun v => vcDraw P K r (putT d v τ) (putR d v ρ) h
def de (P : Program) (K : Env → Heap → Prop) (re : List Sop) (r : List (Sop × List Sop)) (d : Option (Nat × Bool)) (τ ρ : Env) : Value → Heap → Prop := fun v h' => stills P re (putT d v τ) (putR d v ρ) h' ∧ vcDraw P K r (putT d v τ) (putR d v ρ) h'
def dbq (P : Program) (K : Env → Heap → Prop) (r : List (Sop × List Sop)) (d : Option (Nat × Bool)) (op : Op) (ty : TypeId) (τ ρ : Env) (h : Heap) : Unit → Prop := fun _ => OptK (rdo P op ty τ ρ h) (dq P K r d τ ρ h)
def dbe (P : Program) (K : Env → Heap → Prop) (re : List Sop) (r : List (Sop × List Sop)) (d : Option (Nat × Bool)) (op : Op) (ty : TypeId) (τ ρ : Env) (h : Heap) : Unit → Prop := fun _ => eff P op ty τ ρ h (de P K re r d τ ρ)
def dbu (P : Program) (K : Env → Heap → Prop) (re : List Sop) (r : List (Sop × List Sop)) (d : Option (Nat × Bool)) (τ ρ : Env) (h : Heap) : Unit → Prop := fun _ => stills P re (putT d undef τ) (putR d undef ρ) h ∧ vcDraw P K r (putT d undef τ) (putR d undef ρ) h
def dgq (P : Program) (K : Env → Heap → Prop) (r : List (Sop × List Sop)) (d : Option (Nat × Bool)) (op : Op) (ty : TypeId) (want : Bool) (τ ρ : Env) (h : Heap) : Value → Prop := fun x => br (asB x = some want) (dbq P K r d op ty τ ρ h) (dbu P K [] r d τ ρ h)
def dge (P : Program) (K : Env → Heap → Prop) (re : List Sop) (r : List (Sop × List Sop)) (d : Option (Nat × Bool)) (op : Op) (ty : TypeId) (want : Bool) (τ ρ : Env) (h : Heap) : Value → Prop := fun x => br (asB x = some want) (dbe P K re r d op ty τ ρ h) (dbu P K re r d τ ρ h)
theorem dq_ap {K : Env → Heap → Prop} {r : List (Sop × List Sop)} {d : Option (Nat × Bool)} {τ ρ : Env} {h : Heap} {v : Value} : dq P K r d τ ρ h v = vcDraw P K r (putT d v τ) (putR d v ρ) h := _root_.id rfl
theorem de_ap {K : Env → Heap → Prop} {re : List Sop} {r : List (Sop × List Sop)} {d : Option (Nat × Bool)} {τ ρ : Env} {h : Heap} {v : Value} : de P K re r d τ ρ v h = (stills P re (putT d v τ) (putR d v ρ) h ∧ vcDraw P K r (putT d v τ) (putR d v ρ) h) := _root_.id rfl
theorem dbq_ap {K : Env → Heap → Prop} {r : List (Sop × List Sop)} {d : Option (Nat × Bool)} {op : Op} {ty : TypeId} {τ ρ : Env} {h : Heap} {u : Unit} : dbq P K r d op ty τ ρ h u = OptK (rdo P op ty τ ρ h) (dq P K r d τ ρ h) := _root_.id rfl
theorem dbe_ap {K : Env → Heap → Prop} {re : List Sop} {r : List (Sop × List Sop)} {d : Option (Nat × Bool)} {op : Op} {ty : TypeId} {τ ρ : Env} {h : Heap} {u : Unit} : dbe P K re r d op ty τ ρ h u = eff P op ty τ ρ h (de P K re r d τ ρ) := _root_.id rfl
theorem dbu_ap {K : Env → Heap → Prop} {re : List Sop} {r : List (Sop × List Sop)} {d : Option (Nat × Bool)} {τ ρ : Env} {h : Heap} {u : Unit} : dbu P K re r d τ ρ h u = (stills P re (putT d undef τ) (putR d undef ρ) h ∧ vcDraw P K r (putT d undef τ) (putR d undef ρ) h) := _root_.id rfl
theorem dgq_ap {K : Env → Heap → Prop} {r : List (Sop × List Sop)} {d : Option (Nat × Bool)} {op : Op} {ty : TypeId} {want : Bool} {τ ρ : Env} {h : Heap} {x : Value} : dgq P K r d op ty want τ ρ h x = br (asB x = some want) (dbq P K r d op ty τ ρ h) (dbu P K [] r d τ ρ h) := _root_.id rfl
theorem dge_ap {K : Env → Heap → Prop} {re : List Sop} {r : List (Sop × List Sop)} {d : Option (Nat × Bool)} {op : Op} {ty : TypeId} {want : Bool} {τ ρ : Env} {h : Heap} {x : Value} : dge P K re r d op ty want τ ρ h x = br (asB x = some want) (dbe P K re r d op ty τ ρ h) (dbu P K re r d τ ρ h) := _root_.id rfl
theorem drw_q {K : Env → Heap → Prop} {τ ρ : Env} {h : Heap} {d : Option (Nat × Bool)} {op : Op} {ty : TypeId} {r : List (Sop × List Sop)} :
    vcDraw P K ((⟨d, op, ty, none, true⟩, []) :: r) τ ρ h = OptK (rdo P op ty τ ρ h) (dq P K r d τ ρ h) := by
  show vcOne P _ τ ρ h _ = _
  simp only [vcOne, vcRun, if_true, rdOp_eq, stills, true_and]; cases rdo P op ty τ ρ h <;> rfl
theorem drw_e {K : Env → Heap → Prop} {τ ρ : Env} {h : Heap} {d : Option (Nat × Bool)} {op : Op} {ty : TypeId} {re : List Sop} {r : List (Sop × List Sop)} :
    vcDraw P K ((⟨d, op, ty, none, false⟩, re) :: r) τ ρ h = eff P op ty τ ρ h (de P K re r d τ ρ) := by
  show vcOne P _ τ ρ h _ = _
  simp only [vcOne, vcRun, Bool.false_eq_true, if_false, vcOp_eq]; rfl
theorem drw_gq {K : Env → Heap → Prop} {τ ρ : Env} {h : Heap} {d : Option (Nat × Bool)} {op : Op} {ty : TypeId} {r : List (Sop × List Sop)} {g : Nat} {want : Bool} :
    vcDraw P K ((⟨d, op, ty, some (g, want), true⟩, []) :: r) τ ρ h = OptK (lk τ ρ g) (dgq P K r d op ty want τ ρ h) := by
  show vcOne P _ τ ρ h _ = _
  simp only [vcOne, vcRun, if_true, stills, true_and, rdOp_eq]
  cases lk τ ρ g with
  | none => rfl
  | some x => by_cases hx : asB x = some want <;> simp only [hx, br, OptK, dgq, dbq, dbu, dq, stills] <;> cases rdo P op ty τ ρ h <;> simp [hx]
theorem drw_ge {K : Env → Heap → Prop} {τ ρ : Env} {h : Heap} {d : Option (Nat × Bool)} {op : Op} {ty : TypeId} {re : List Sop} {r : List (Sop × List Sop)} {g : Nat} {want : Bool} :
    vcDraw P K ((⟨d, op, ty, some (g, want), false⟩, re) :: r) τ ρ h = OptK (lk τ ρ g) (dge P K re r d op ty want τ ρ h) := by
  show vcOne P _ τ ρ h _ = _
  simp only [vcOne, vcRun, Bool.false_eq_true, if_false, vcOp_eq]
  cases lk τ ρ g with
  | none => rfl
  | some x => by_cases hx : asB x = some want <;> simp [hx, br, OptK, dge, dbe, dbu] <;> rfl
theorem vc_tree {Q : Ex → Env → Heap → Prop} {ρ : Env} {h : Heap} {t : Dt} : Cd.vc P (.tree t) Q ρ h = vcT P (Q .normal) t [] ρ h := _root_.id rfl
theorem tr_both {K : Env → Heap → Prop} {τ ρ : Env} {h : Heap} {a b : Dt} : vcT P K (.both a b) τ ρ h = (vcT P K a τ ρ h ∧ vcT P K b τ ρ h) := _root_.id rfl
theorem tr_done {K : Env → Heap → Prop} {τ ρ : Env} {h : Heap} : vcT P K .done τ ρ h = K ρ h := _root_.id rfl
def tq (P : Program) (K : Env → Heap → Prop) (r : Dt) (d : Option (Nat × Bool)) (τ ρ : Env) (h : Heap) : Value → Prop := fun v => vcT P K r (putT d v τ) (putR d v ρ) h
def te (P : Program) (K : Env → Heap → Prop) (re : List Sop) (r : Dt) (d : Option (Nat × Bool)) (τ ρ : Env) : Value → Heap → Prop := fun v h' => stills P re (putT d v τ) (putR d v ρ) h' ∧ vcT P K r (putT d v τ) (putR d v ρ) h'
def tbq (P : Program) (K : Env → Heap → Prop) (r : Dt) (d : Option (Nat × Bool)) (op : Op) (ty : TypeId) (τ ρ : Env) (h : Heap) : Unit → Prop := fun _ => OptK (rdo P op ty τ ρ h) (tq P K r d τ ρ h)
def tbe (P : Program) (K : Env → Heap → Prop) (re : List Sop) (r : Dt) (d : Option (Nat × Bool)) (op : Op) (ty : TypeId) (τ ρ : Env) (h : Heap) : Unit → Prop := fun _ => eff P op ty τ ρ h (te P K re r d τ ρ)
def tbu (P : Program) (K : Env → Heap → Prop) (re : List Sop) (r : Dt) (d : Option (Nat × Bool)) (τ ρ : Env) (h : Heap) : Unit → Prop := fun _ => stills P re (putT d undef τ) (putR d undef ρ) h ∧ vcT P K r (putT d undef τ) (putR d undef ρ) h
def tgq (P : Program) (K : Env → Heap → Prop) (r : Dt) (d : Option (Nat × Bool)) (op : Op) (ty : TypeId) (want : Bool) (τ ρ : Env) (h : Heap) : Value → Prop := fun x => br (asB x = some want) (tbq P K r d op ty τ ρ h) (tbu P K [] r d τ ρ h)
def tge (P : Program) (K : Env → Heap → Prop) (re : List Sop) (r : Dt) (d : Option (Nat × Bool)) (op : Op) (ty : TypeId) (want : Bool) (τ ρ : Env) (h : Heap) : Value → Prop := fun x => br (asB x = some want) (tbe P K re r d op ty τ ρ h) (tbu P K re r d τ ρ h)
theorem tq_ap {K : Env → Heap → Prop} {r : Dt} {d : Option (Nat × Bool)} {τ ρ : Env} {h : Heap} {v : Value} : tq P K r d τ ρ h v = vcT P K r (putT d v τ) (putR d v ρ) h := _root_.id rfl
theorem te_ap {K : Env → Heap → Prop} {re : List Sop} {r : Dt} {d : Option (Nat × Bool)} {τ ρ : Env} {h : Heap} {v : Value} : te P K re r d τ ρ v h = (stills P re (putT d v τ) (putR d v ρ) h ∧ vcT P K r (putT d v τ) (putR d v ρ) h) := _root_.id rfl
theorem tbq_ap {K : Env → Heap → Prop} {r : Dt} {d : Option (Nat × Bool)} {op : Op} {ty : TypeId} {τ ρ : Env} {h : Heap} {u : Unit} : tbq P K r d op ty τ ρ h u = OptK (rdo P op ty τ ρ h) (tq P K r d τ ρ h) := _root_.id rfl
theorem tbe_ap {K : Env → Heap → Prop} {re : List Sop} {r : Dt} {d : Option (Nat × Bool)} {op : Op} {ty : TypeId} {τ ρ : Env} {h : Heap} {u : Unit} : tbe P K re r d op ty τ ρ h u = eff P op ty τ ρ h (te P K re r d τ ρ) := _root_.id rfl
theorem tbu_ap {K : Env → Heap → Prop} {re : List Sop} {r : Dt} {d : Option (Nat × Bool)} {τ ρ : Env} {h : Heap} {u : Unit} : tbu P K re r d τ ρ h u = (stills P re (putT d undef τ) (putR d undef ρ) h ∧ vcT P K r (putT d undef τ) (putR d undef ρ) h) := _root_.id rfl
theorem tgq_ap {K : Env → Heap → Prop} {r : Dt} {d : Option (Nat × Bool)} {op : Op} {ty : TypeId} {want : Bool} {τ ρ : Env} {h : Heap} {x : Value} : tgq P K r d op ty want τ ρ h x = br (asB x = some want) (tbq P K r d op ty τ ρ h) (tbu P K [] r d τ ρ h) := _root_.id rfl
theorem tge_ap {K : Env → Heap → Prop} {re : List Sop} {r : Dt} {d : Option (Nat × Bool)} {op : Op} {ty : TypeId} {want : Bool} {τ ρ : Env} {h : Heap} {x : Value} : tge P K re r d op ty want τ ρ h x = br (asB x = some want) (tbe P K re r d op ty τ ρ h) (tbu P K re r d τ ρ h) := _root_.id rfl
theorem tr_q {K : Env → Heap → Prop} {τ ρ : Env} {h : Heap} {d : Option (Nat × Bool)} {op : Op} {ty : TypeId} {r : Dt} :
    vcT P K (.run ⟨d, op, ty, none, true⟩ [] r) τ ρ h = OptK (rdo P op ty τ ρ h) (tq P K r d τ ρ h) := by
  show vcOne P _ τ ρ h _ = _
  simp only [vcOne, vcRun, if_true, rdOp_eq, stills, true_and]; cases rdo P op ty τ ρ h <;> rfl
theorem tr_e {K : Env → Heap → Prop} {τ ρ : Env} {h : Heap} {d : Option (Nat × Bool)} {op : Op} {ty : TypeId} {re : List Sop} {r : Dt} :
    vcT P K (.run ⟨d, op, ty, none, false⟩ re r) τ ρ h = eff P op ty τ ρ h (te P K re r d τ ρ) := by
  show vcOne P _ τ ρ h _ = _
  simp only [vcOne, vcRun, Bool.false_eq_true, if_false, vcOp_eq]; rfl
theorem tr_gq {K : Env → Heap → Prop} {τ ρ : Env} {h : Heap} {d : Option (Nat × Bool)} {op : Op} {ty : TypeId} {r : Dt} {g : Nat} {want : Bool} :
    vcT P K (.run ⟨d, op, ty, some (g, want), true⟩ [] r) τ ρ h = OptK (lk τ ρ g) (tgq P K r d op ty want τ ρ h) := by
  show vcOne P _ τ ρ h _ = _
  simp only [vcOne, vcRun, if_true, stills, true_and, rdOp_eq]
  cases lk τ ρ g with
  | none => rfl
  | some x => by_cases hx : asB x = some want <;> simp only [hx, br, OptK, tgq, tbq, tbu, tq, stills] <;> cases rdo P op ty τ ρ h <;> simp [hx]
theorem tr_ge {K : Env → Heap → Prop} {τ ρ : Env} {h : Heap} {d : Option (Nat × Bool)} {op : Op} {ty : TypeId} {re : List Sop} {r : Dt} {g : Nat} {want : Bool} :
    vcT P K (.run ⟨d, op, ty, some (g, want), false⟩ re r) τ ρ h = OptK (lk τ ρ g) (tge P K re r d op ty want τ ρ h) := by
  show vcOne P _ τ ρ h _ = _
  simp only [vcOne, vcRun, Bool.false_eq_true, if_false, vcOp_eq]
  cases lk τ ρ g with
  | none => rfl
  | some x => by_cases hx : asB x = some want <;> simp [hx, br, OptK, tge, tbe, tbu] <;> rfl
theorem stills_nil {τ ρ : Env} {h : Heap} : stills P [] τ ρ h = True := _root_.id rfl
theorem stills_cons {τ ρ : Env} {h : Heap} {t : Nat} {l : Bool} {op : Op} {ty : TypeId} {q : Bool} {r : List Sop} :
    stills P (⟨some (t, l), op, ty, none, q⟩ :: r) τ ρ h = ((rdo P op ty τ ρ h = lk τ ρ t ∧ (lk τ ρ t).isSome = true) ∧ stills P r τ ρ h) := rfl
theorem stills_gcons {τ ρ : Env} {h : Heap} {t : Nat} {l : Bool} {op : Op} {ty : TypeId} {q : Bool} {r : List Sop} {g : Nat} {want : Bool} :
    stills P (⟨some (t, l), op, ty, some (g, want), q⟩ :: r) τ ρ h = (OptK (lk τ ρ g) (fun v => asB v = some want → rdo P op ty τ ρ h = lk τ ρ t ∧ (lk τ ρ t).isSome = true) ∧ stills P r τ ρ h) := by
  simp only [stills, still, rdOp_eq]
  cases lk τ ρ g <;> rfl

theorem asB_bool {b : Bool} : asB (.bool b) = some b := _root_.id rfl
theorem asB_undef : asB undef = none := _root_.id rfl

/-- One operand; two; three. -/
theorem known_1 {τ ρ : Env} {op : Op} {x : Operand} (h : op.operands = #[x]) : known τ ρ op ↔ (evo τ ρ x).isSome = true := by simp [known, h]
theorem known_2 {τ ρ : Env} {op : Op} {x y : Operand} (h : op.operands = #[x, y]) : known τ ρ op ↔ (evo τ ρ x).isSome = true ∧ (evo τ ρ y).isSome = true := by simp [known, h]

theorem rdo_1 {op : Op} {ty : TypeId} {τ ρ : Env} {h : Heap} {x : Operand} (ho : op.operands = #[x]) (f : Value → Option Value)
    (hf : ∀ e : Operand → Value, valOf (rd P (execOp e (Sop.oper ⟨none, op, ty, none, true⟩)) h) = f (e x)) : rdo P op ty τ ρ h = (evo τ ρ x).bind f := by
  unfold rdo rdOp
  cases hx : evo τ ρ x with
  | none => rw [if_neg (by rw [known_1 ho]; simp [hx])]; rfl
  | some v => rw [if_pos (by rw [known_1 ho]; simp [hx]), hf]; simp [evd, hx]
theorem rdo_2 {op : Op} {ty : TypeId} {τ ρ : Env} {h : Heap} {x y : Operand} (ho : op.operands = #[x, y]) (f : Value → Value → Option Value)
    (hf : ∀ e : Operand → Value, valOf (rd P (execOp e (Sop.oper ⟨none, op, ty, none, true⟩)) h) = f (e x) (e y)) : rdo P op ty τ ρ h = (evo τ ρ x).bind fun a => (evo τ ρ y).bind fun b => f a b := by
  unfold rdo rdOp
  cases hx : evo τ ρ x with
  | none => rw [if_neg (by rw [known_2 ho]; simp [hx])]; rfl
  | some v =>
    cases hy : evo τ ρ y with
    | none => rw [if_neg (by rw [known_2 ho]; simp [hy])]; rfl
    | some u => rw [if_pos (by rw [known_2 ho]; simp [hx, hy]), hf]; simp [evd, hx, hy]

theorem valOf_v {s : Sem Value} {h : Heap} : valOf (rd P (do pure (Next.value (← s))) h) = rd P s h := by
  rw [rd_bind']; cases rd P s h <;> rfl

theorem rdo_move {x : Operand} {ty : TypeId} {τ ρ : Env} {h : Heap} : rdo P (.move x) ty τ ρ h = evo τ ρ x := by
  rw [rdo_1 (x := x) rfl some fun e => rfl]; cases evo τ ρ x <;> rfl
theorem rdo_assign {x : Operand} {ty : TypeId} {τ ρ : Env} {h : Heap} : rdo P (.assign x) ty τ ρ h = evo τ ρ x := by
  rw [rdo_1 (x := x) rfl some fun e => rfl]; cases evo τ ρ x <;> rfl
def pickV (c a b : Value) : Option Value := match asB c with
  | some t => some (if t = true then a else b)
  | none => none
theorem pickV_bool {t : Bool} {a b : Value} : pickV (.bool t) a b = some (if t = true then a else b) := _root_.id rfl
theorem rdo_pick {c x y : Operand} {ty : TypeId} {τ ρ : Env} {h : Heap} : rdo P (.pick c x y) ty τ ρ h = (evo τ ρ c).bind fun vc => (evo τ ρ x).bind fun a => (evo τ ρ y).bind fun b => pickV vc a b := by
  unfold rdo rdOp
  have hk : known τ ρ (.pick c x y) ↔ (evo τ ρ c).isSome = true ∧ (evo τ ρ x).isSome = true ∧ (evo τ ρ y).isSome = true := by simp [known, Op.operands]
  cases hc : evo τ ρ c with
  | none => rw [if_neg (by rw [hk]; simp [hc])]; rfl
  | some vc =>
    cases hx : evo τ ρ x with
    | none => rw [if_neg (by rw [hk]; simp [hx])]; rfl
    | some vx =>
      cases hy : evo τ ρ y with
      | none => rw [if_neg (by rw [hk]; simp [hy])]; rfl
      | some vy =>
        rw [if_pos (by rw [hk]; simp [hc, hx, hy])]
        simp only [execOp, Sop.oper, evd, hc, hx, hy, Option.getD_some, Option.bind_some, rd_bind', pickV]
        cases vc <;> first | rfl | (simp only [asBool, asB]; cases ‹Bool› <;> rfl)
def exV (v : Value) (i : Nat) : Option Value := match v with
  | .tuple vs => vs[i]?
  | _ => none
theorem exV_tuple {vs : Array Value} {i : Nat} : exV (.tuple vs) i = vs[i]? := _root_.id rfl
theorem rdo_extract {x : Operand} {i : Nat} {ty : TypeId} {τ ρ : Env} {h : Heap} : rdo P (.extract x i) ty τ ρ h = (evo τ ρ x).bind fun v => exV v i := by
  rw [rdo_1 (x := x) rfl (fun v => exV v i) fun e => ?_]
  simp only [execOp, Sop.oper, valOf_v]
  generalize e x = v
  cases v <;> first | rfl | skip
  rename_i vs
  simp only [Instr.extract, exV]
  cases vs[i]? <;> rfl
def binE (P : Program) (op : BinOp) (t : TypeId) (x y : Operand) (a b : Value) (h : Heap) : Option Value := rd P (do eqGuard op t x y a b; binOp op t a b) h
theorem rdo_bin {op : BinOp} {t yt : TypeId} {x y : Operand} {ty : TypeId} {τ ρ : Env} {h : Heap} : rdo P (.binOp op t x y yt) ty τ ρ h = (evo τ ρ x).bind fun a => (evo τ ρ y).bind fun b => binE P op t x y a b h := by
  rw [rdo_2 (x := x) (y := y) rfl (fun a b => binE P op t x y a b h) fun e => ?_]
  simp only [execOp, Sop.oper, valOf_v]; rfl
def unE (P : Program) (op : UnOp) (a : Value) (h : Heap) : Option Value := rd P (Op.unary op a) h
theorem rdo_un {op : UnOp} {t : TypeId} {x : Operand} {ty : TypeId} {τ ρ : Env} {h : Heap} : rdo P (.unOp op t x) ty τ ρ h = (evo τ ρ x).bind fun a => unE P op a h := by
  rw [rdo_1 (x := x) rfl (fun a => unE P op a h) fun e => ?_]
  simp only [execOp, Sop.oper, valOf_v]; rfl
def cvE (P : Program) (s d : TypeId) (a : Value) (h : Heap) : Option Value := rd P (convert s d a) h
theorem rdo_cv {s d : TypeId} {x : Operand} {ty : TypeId} {τ ρ : Env} {h : Heap} : rdo P (.convert s d x) ty τ ρ h = (evo τ ρ x).bind fun a => cvE P s d a h := by
  rw [rdo_1 (x := x) rfl (fun a => cvE P s d a h) fun e => ?_]
  simp only [execOp, Sop.oper, valOf_v]; rfl
def ldE (P : Program) (t : TypeId) (a : Value) (h : Heap) : Option Value := rd P (Instr.loadAt t a) h
def ld (P : Program) (t : TypeId) (a : Addr) (h : Heap) : Option Value := rd P (loadVar t a) h
theorem cellV_ld {ty : TypeId} {a : Addr} {h : Heap} : cellV P ty h (.pointer (some a)) = ld P ty a h := _root_.id rfl
theorem rdo_ld {t : TypeId} {x : Operand} {ty : TypeId} {τ ρ : Env} {h : Heap} : rdo P (.load t x) ty τ ρ h = (evo τ ρ x).bind fun a => ldE P t a h := by
  rw [rdo_1 (x := x) rfl (fun a => ldE P t a h) fun e => ?_]
  simp only [execOp, Sop.oper, valOf_v]; rfl
theorem ldE_ptr {t : TypeId} {a : Addr} {h : Heap} : ldE P t (.pointer (some a)) h = ld P t a h := _root_.id rfl
def faE (P : Program) (s : TypeId) (a : Value) (f : Nat) (h : Heap) : Option Value := rd P (Instr.fieldAt s a f) h
theorem rdo_fa {s : TypeId} {f : Nat} {x : Operand} {ty : TypeId} {τ ρ : Env} {h : Heap} : rdo P (.fieldAddr s x f) ty τ ρ h = (evo τ ρ x).bind fun a => faE P s a f h := by
  rw [rdo_1 (x := x) rfl (fun a => faE P s a f h) fun e => ?_]
  simp only [execOp, Sop.oper, valOf_v]; rfl
def fdE (P : Program) (s : TypeId) (a : Value) (f : Nat) (h : Heap) : Option Value := rd P (Instr.field s a f) h
theorem rdo_fd {s : TypeId} {f : Nat} {x : Operand} {ty : TypeId} {τ ρ : Env} {h : Heap} : rdo P (.field s x f) ty τ ρ h = (evo τ ρ x).bind fun a => fdE P s a f h := by
  rw [rdo_1 (x := x) rfl (fun a => fdE P s a f h) fun e => ?_]
  simp only [execOp, Sop.oper, valOf_v]; rfl
def iaE (P : Program) (t : TypeId) (a i : Value) (h : Heap) : Option Value := rd P (Instr.indexAt t a i) h
theorem rdo_ia {t : TypeId} {x i : Operand} {ty : TypeId} {τ ρ : Env} {h : Heap} : rdo P (.indexAddr t x i) ty τ ρ h = (evo τ ρ x).bind fun a => (evo τ ρ i).bind fun b => iaE P t a b h := by
  rw [rdo_2 (x := x) (y := i) rfl (fun a b => iaE P t a b h) fun e => ?_]
  simp only [execOp, Sop.oper, valOf_v]; rfl
def ixE (P : Program) (t : TypeId) (a i : Value) (h : Heap) : Option Value := rd P (Instr.index t a i) h
theorem rdo_ix {t : TypeId} {x i : Operand} {ty : TypeId} {τ ρ : Env} {h : Heap} : rdo P (.index t x i) ty τ ρ h = (evo τ ρ x).bind fun a => (evo τ ρ i).bind fun b => ixE P t a b h := by
  rw [rdo_2 (x := x) (y := i) rfl (fun a b => ixE P t a b h) fun e => ?_]
  simp only [execOp, Sop.oper, valOf_v]; rfl
def lkE (P : Program) (t : TypeId) (a i : Value) (ok : Bool) (h : Heap) : Option Value := rd P (Instr.lookup t a i ok) h
theorem rdo_lookup {t : TypeId} {x i : Operand} {ok : Bool} {ty : TypeId} {τ ρ : Env} {h : Heap} : rdo P (.lookup t x i ok) ty τ ρ h = (evo τ ρ x).bind fun a => (evo τ ρ i).bind fun b => lkE P t a b ok h := by
  rw [rdo_2 (x := x) (y := i) rfl (fun a b => lkE P t a b ok h) fun e => ?_]
  simp only [execOp, Sop.oper, valOf_v]; rfl
def lenE (P : Program) (t ty : TypeId) (a : Value) (h : Heap) : Option Value := rd P (Builtin.len_ #[t] ty #[a]) h
theorem rdo_len {t : TypeId} {x : Operand} {ty : TypeId} {τ ρ : Env} {h : Heap} : rdo P (.call { callee := .builtin .len, args := #[x], argTypes := #[t] }) ty τ ρ h = (evo τ ρ x).bind fun a => lenE P t ty a h := by
  rw [rdo_1 (x := x) (by rfl) (fun a => lenE P t ty a h) fun e => ?_]
  simp only [execOp, Sop.oper, resolve, invoke, builtin, rd_bind', rd_pure, Option.bind_some, List.map_toArray, List.map_cons, List.map_nil]
  show valOf ((rd P (Builtin.len_ #[t] ty #[e x]) h).bind fun v => rd P (pure (Next.value v)) h) = _
  unfold lenE
  cases rd P (Builtin.len_ #[t] ty #[e x]) h <;> rfl
def slE (P : Program) (t : TypeId) (a : Value) (lo hi mx : Option Value) (h : Heap) : Option Value := rd P (Instr.sliceAt t a lo hi mx) h
theorem rdo_sl_n {t : TypeId} {x : Operand} {ty : TypeId} {τ ρ : Env} {h : Heap} : rdo P (.slice t x none none none) ty τ ρ h = (evo τ ρ x).bind fun a => slE P t a none none none h := by
  rw [rdo_1 (x := x) (by rfl) (fun a => slE P t a none none none h) fun e => ?_]
  simp only [execOp, Sop.oper, valOf_v]; rfl
theorem rdo_sl_l {t : TypeId} {x l : Operand} {ty : TypeId} {τ ρ : Env} {h : Heap} : rdo P (.slice t x (some l) none none) ty τ ρ h = (evo τ ρ x).bind fun a => (evo τ ρ l).bind fun b => slE P t a (some b) none none h := by
  rw [rdo_2 (x := x) (y := l) (by rfl) (fun a b => slE P t a (some b) none none h) fun e => ?_]
  simp only [execOp, Sop.oper, valOf_v]; rfl
theorem rdo_sl_h {t : TypeId} {x u : Operand} {ty : TypeId} {τ ρ : Env} {h : Heap} : rdo P (.slice t x none (some u) none) ty τ ρ h = (evo τ ρ x).bind fun a => (evo τ ρ u).bind fun b => slE P t a none (some b) none h := by
  rw [rdo_2 (x := x) (y := u) (by rfl) (fun a b => slE P t a none (some b) none h) fun e => ?_]
  simp only [execOp, Sop.oper, valOf_v]; rfl
theorem rdo_sl_lh {t : TypeId} {x l u : Operand} {ty : TypeId} {τ ρ : Env} {h : Heap} : rdo P (.slice t x (some l) (some u) none) ty τ ρ h = (evo τ ρ x).bind fun a => (evo τ ρ l).bind fun b => (evo τ ρ u).bind fun c => slE P t a (some b) (some c) none h := by
  unfold rdo rdOp
  have hk : known τ ρ (.slice t x (some l) (some u) none) ↔ (evo τ ρ x).isSome = true ∧ (evo τ ρ l).isSome = true ∧ (evo τ ρ u).isSome = true := by simp [known, Op.operands]
  cases hc : evo τ ρ x with
  | none => rw [if_neg (by rw [hk]; simp [hc])]; rfl
  | some vc =>
    cases hx : evo τ ρ l with
    | none => rw [if_neg (by rw [hk]; simp [hx])]; rfl
    | some vx =>
      cases hy : evo τ ρ u with
      | none => rw [if_neg (by rw [hk]; simp [hy])]; rfl
      | some vy =>
        rw [if_pos (by rw [hk]; simp [hc, hx, hy])]
        simp only [execOp, Sop.oper, evd, hc, hx, hy, Option.getD_some, Option.bind_some, valOf_v, Option.map_some]; rfl
def ncV : Value → Option Value
  | .pointer (some a) => some (.pointer (some a))
  | _ => none
theorem ncV_ptr {a : Addr} : ncV (.pointer (some a)) = some (.pointer (some a)) := _root_.id rfl
def ncE (P : Program) (a : Value) (h : Heap) : Option Value := valOf (rd P (execOp (fun _ => a) (Sop.oper ⟨none, .nilCheck (.tmp 0), 0, none, true⟩)) h)
theorem ncE_ptr {a : Addr} {h : Heap} : ncE P (.pointer (some a)) h = some (.pointer (some a)) := _root_.id rfl
theorem rdo_nc {x : Operand} {ty : TypeId} {τ ρ : Env} {h : Heap} : rdo P (.nilCheck x) ty τ ρ h = (evo τ ρ x).bind fun a => ncE P a h := by
  rw [rdo_1 (x := x) rfl (fun a => ncE P a h) fun e => ?_]
  rfl
/-- Lists of operands. -/
def evs (τ ρ : Env) : List Operand → Option (List Value)
  | [] => some []
  | x :: r => (evo τ ρ x).bind fun v => (evs τ ρ r).map fun l => v :: l
theorem evs_nil {τ ρ : Env} : evs τ ρ [] = some [] := _root_.id rfl
theorem evs_cons {τ ρ : Env} {x : Operand} {r : List Operand} : evs τ ρ (x :: r) = (evo τ ρ x).bind fun v => (evs τ ρ r).map fun l => v :: l := _root_.id rfl
theorem evs_some {τ ρ : Env} : ∀ (l : List Operand) (vs : List Value), evs τ ρ l = some vs → (∀ x ∈ l, (evo τ ρ x).isSome = true) ∧ l.map (evd τ ρ) = vs := by
  intro l
  induction l with
  | nil => intro vs h; cases h; exact ⟨by simp, rfl⟩
  | cons x r ih =>
    intro vs h
    simp only [evs] at h
    cases hx : evo τ ρ x with
    | none => rw [hx] at h; cases h
    | some v =>
      rw [hx] at h
      cases hr : evs τ ρ r with
      | none => rw [hr] at h; cases h
      | some l' =>
        rw [hr] at h; cases h
        obtain ⟨h1, h2⟩ := ih l' hr
        refine ⟨?_, by simp [evd, hx, ← h2]⟩
        intro y hy
        rcases List.mem_cons.1 hy with hy | hy
        · rw [hy, hx]; rfl
        · exact h1 y hy

theorem known_list {τ ρ : Env} {op : Op} {l : List Operand} {vs : List Value} (ho : op.operands.toList = l) (hv : evs τ ρ l = some vs) : known τ ρ op := by
  intro x hx
  exact (evs_some l vs hv).1 x (by rw [← ho]; simpa using hx)
def mkF (fn : Fn) (vs : List Value) : Option Value := some (.func fn #[] vs.toArray)
theorem rdo_mkfunc {fn : Fn} {cap : List Operand} {ty : TypeId} {τ ρ : Env} {h : Heap} : rdo P (.makeFunc fn #[] cap.toArray) ty τ ρ h = (evs τ ρ cap).bind (mkF fn) := by
  unfold rdo rdOp
  have hk : known τ ρ (.makeFunc fn #[] cap.toArray) ↔ ∀ x ∈ cap, (evo τ ρ x).isSome = true := by simp [known, Op.operands]
  cases hv : evs τ ρ cap with
  | some vs =>
    obtain ⟨h1, h2⟩ := evs_some cap vs hv
    rw [if_pos (hk.2 h1)]
    simp only [execOp, Sop.oper, List.map_toArray, h2]
    rfl
  | none =>
    rw [if_neg]
    · rfl
    · intro hh
      have h1 := hk.1 hh
      have : ∀ (l : List Operand), (∀ x ∈ l, (evo τ ρ x).isSome = true) → ∃ vs, evs τ ρ l = some vs := by
        intro l
        induction l with
        | nil => intro _; exact ⟨[], rfl⟩
        | cons x r ih =>
          intro hx
          obtain ⟨v, hv⟩ := Option.isSome_iff_exists.1 (hx x List.mem_cons_self)
          obtain ⟨vs, hvs⟩ := ih fun y hy => hx y (List.mem_cons_of_mem _ hy)
          exact ⟨v :: vs, by simp [evs, hv, hvs]⟩
      obtain ⟨vs, hvs⟩ := this cap h1
      rw [hv] at hvs; cases hvs
theorem mkF_ap {fn : Fn} {vs : List Value} : mkF fn vs = some (.func fn #[] vs.toArray) := _root_.id rfl
def callable (P : Program) (f : FuncId) : Bool := match P.funcs[f]? with
  | some fn => fn.body.isSome && !(fn.name == "runtime.NumGoroutine")
  | none => false
theorem hr_callFunc {f : FuncId} (hc : callable P f = true) (args : Array Value) (h : Heap) (K : Next → Heap → Prop) : hr P (callFunc f args) h K = K (.enter f args) h := by
  unfold callable at hc
  cases hf : P.funcs[f]? with
  | none => rw [hf] at hc; cases hc
  | some fn =>
    rw [hf] at hc
    simp only [Bool.and_eq_true, Bool.not_eq_true'] at hc
    unfold callFunc
    rw [hr_bind']
    show hr P (match P.funcs[f]? with | none => _ | some fn => _) h K = _
    rw [hf]
    simp only [hc.2, Bool.false_eq_true, if_false]
    have hb : fn.body.isNone = false := by cases hx : fn.body with
      | none => rw [hx] at hc; cases hc.1
      | some c => rfl
    simp only [hb, Bool.false_eq_true, if_false]
    rfl
/-- A call of a function value. -/
def callV (P : Program) (f : Value) (vs : List Value) (h : Heap) (K : Value → Heap → Prop) : Prop := match f with
  | .func (.func g) first cap => callable P g = true ∧ HCalls P g (first ++ vs.toArray ++ cap) h K
  | _ => False
theorem callV_fn {g : FuncId} {first cap : Array Value} {vs : List Value} {h : Heap} {K : Value → Heap → Prop} : callV P (.func (.func g) first cap) vs h K = (callable P g = true ∧ HCalls P g (first.toList ++ vs ++ cap.toList).toArray h K) := by
  rw [show (first.toList ++ vs ++ cap.toList).toArray = first ++ vs.toArray ++ cap by apply Array.toList_inj.1; simp]; rfl
def kcall (P : Program) (h : Heap) (K : Value → Heap → Prop) (fv : Value) : List Value → Prop := fun vs => callV P fv vs h K
def kcalf (P : Program) (τ ρ : Env) (args : List Operand) (h : Heap) (K : Value → Heap → Prop) : Value → Prop := fun fv => OptK (evs τ ρ args) (kcall P h K fv)
theorem kcall_ap {h : Heap} {K : Value → Heap → Prop} {fv : Value} {vs : List Value} : kcall P h K fv vs = callV P fv vs h K := _root_.id rfl
theorem kcalf_ap {τ ρ : Env} {args : List Operand} {h : Heap} {K : Value → Heap → Prop} {fv : Value} : kcalf P τ ρ args h K fv = OptK (evs τ ρ args) (kcall P h K fv) := _root_.id rfl
theorem callV_func {g : FuncId} {first cap : Array Value} {vs : List Value} {h : Heap} {K : Value → Heap → Prop} : callV P (.func (.func g) first cap) vs h K = (callable P g = true ∧ HCalls P g (first ++ vs.toArray ++ cap) h K) := _root_.id rfl
theorem callV_congr {f f' : Value} {vs vs' : List Value} {h h' : Heap} {K : Value → Heap → Prop} (e1 : f = f') (e2 : vs = vs') (e3 : h = h') : callV P f vs h K = callV P f' vs' h' K := by rw [e1, e2, e3]

theorem eff_call_of {f : Operand} {args : List Operand} {ats : Array TypeId} {ty : TypeId} {τ ρ : Env} {h : Heap} {K : Value → Heap → Prop}
    (H : OptK (evo τ ρ f) (kcalf P τ ρ args h K)) : eff P (.call { callee := .value f, args := args.toArray, argTypes := ats }) ty τ ρ h K := by
  cases hf : evo τ ρ f with
  | none => rw [hf] at H; exact H.elim
  | some fv =>
    rw [hf] at H
    simp only [OptK, kcalf] at H
    cases hv : evs τ ρ args with
    | none => rw [hv] at H; exact H.elim
    | some vs =>
      rw [hv] at H
      simp only [kcall] at H
      obtain ⟨k1, k2⟩ := evs_some args vs hv
      cases fv <;> simp only [callV] at H
      rename_i fn first cap
      cases fn <;> simp only [] at H
      rename_i g
      refine ⟨?_, ?_⟩
      · intro x hx
        simp only [Op.operands, Call.operands] at hx
        rcases Array.mem_append.1 hx with hx | hx
        · simp at hx; subst hx; rw [hf]; rfl
        · exact k1 x (by simpa using hx)
      · simp only [execOp, Sop.oper, resolve]
        refine sr_of_hr ?_
        rw [hr_bind']
        have he : evd τ ρ f = .func (.func g) first cap := by simp [evd, hf]
        rw [he]
        show hr P (callFunc g (first ++ args.toArray.map (evd τ ρ) ++ cap)) h _
        rw [hr_callFunc H.1, List.map_toArray, k2]
        exact H.2
/-- A call of a named function, its arguments as they stand. -/
theorem eff_callF {g : FuncId} {args : List Operand} {ats : Array TypeId} {ty : TypeId} {τ ρ : Env} {h : Heap} {K : Value → Heap → Prop} {vs : List Value}
    (hv : evs τ ρ args = some vs) (H : HCalls P g vs.toArray h K) (hc : callable P g = true := by kernel_rfl) : eff P (.call { callee := .value (.func g), args := args.toArray, argTypes := ats }) ty τ ρ h K := by
  refine eff_call_of ?_
  show OptK (evs τ ρ args) (kcall P h K (.func (.func g) #[] #[]))
  rw [hv]
  show callV P (.func (.func g) #[] #[]) vs h K
  rw [callV_fn]
  exact ⟨hc, by simpa using H⟩
end
/-! One operation of the printed code, short. -/
@[reducible] def sq (d : Nat) (o : Op) (t : TypeId) : Sop := ⟨some (d, false), o, t, none, true⟩
@[reducible] def sw (d : Nat) (o : Op) (t : TypeId) : Sop := ⟨some (d, true), o, t, none, true⟩
@[reducible] def sc (d : Nat) (o : Op) (t : TypeId) : Sop := ⟨some (d, false), o, t, none, false⟩
@[reducible] def sa (d : Nat) (o : Op) (t : TypeId) : Sop := ⟨some (d, true), o, t, none, false⟩
@[reducible] def ss (o : Op) : Sop := ⟨none, o, 0, none, false⟩
theorem sq_eq {d : Nat} {o : Op} {t : TypeId} : sq d o t = ⟨some (d, false), o, t, none, true⟩ := _root_.id rfl
theorem sw_eq {d : Nat} {o : Op} {t : TypeId} : sw d o t = ⟨some (d, true), o, t, none, true⟩ := _root_.id rfl
theorem sc_eq {d : Nat} {o : Op} {t : TypeId} : sc d o t = ⟨some (d, false), o, t, none, false⟩ := _root_.id rfl
theorem sa_eq {d : Nat} {o : Op} {t : TypeId} : sa d o t = ⟨some (d, true), o, t, none, false⟩ := _root_.id rfl
theorem ss_eq {o : Op} : ss o = ⟨none, o, 0, none, false⟩ := _root_.id rfl
/-! Named code is what it names: for the printed code of functions. -/
theorem goOps {P : Program} {a b : List Sop} (e : a = b) {K : Env → Heap → Prop} {τ ρ : Env} {h : Heap} : vcOps P K a τ ρ h = vcOps P K b τ ρ h := by rw [e]
theorem goT {P : Program} {a b : Dt} (e : a = b) {K : Env → Heap → Prop} {τ ρ : Env} {h : Heap} : vcT P K a τ ρ h = vcT P K b τ ρ h := by rw [e]
theorem goDraw {P : Program} {a b : List (Sop × List Sop)} (e : a = b) {K : Env → Heap → Prop} {τ ρ : Env} {h : Heap} : vcDraw P K a τ ρ h = vcDraw P K b τ ρ h := by rw [e]
theorem goVc {P : Program} {a b : Cd} (e : a = b) {Q : Ex → Env → Heap → Prop} {ρ : Env} {h : Heap} : Cd.vc P a Q ρ h = Cd.vc P b Q ρ h := by rw [e]
theorem go {a b : List Sop} (e : a = b) : ∀ (P : Program) (K : Env → Heap → Prop) (τ ρ : Env) (h : Heap), vcOps P K a τ ρ h = vcOps P K b τ ρ h := by intros; rw [e]
theorem gt {a b : Dt} (e : a = b) : ∀ (P : Program) (K : Env → Heap → Prop) (τ ρ : Env) (h : Heap), vcT P K a τ ρ h = vcT P K b τ ρ h := by intros; rw [e]
theorem gd {a b : List (Sop × List Sop)} (e : a = b) : ∀ (P : Program) (K : Env → Heap → Prop) (τ ρ : Env) (h : Heap), vcDraw P K a τ ρ h = vcDraw P K b τ ρ h := by intros; rw [e]
theorem gv {a b : Cd} (e : a = b) : ∀ (P : Program) (Q : Ex → Env → Heap → Prop) (ρ : Env) (h : Heap), Cd.vc P a Q ρ h = Cd.vc P b Q ρ h := by intros; rw [e]
/-- A function's code, stripped, serves its calls. -/
@[reducible] def Cl (P : Program) (cd : Cd) (k n : Nat) (ts : List (Nat × Option TypeId)) (L : List Nat) : Prop :=
  ∀ {args : List Value} {h : Heap} {R : Value → Heap → Prop}, args.length = n → Cd.vc P cd (retQ P ts R) (initEnv args L) h → HCalls P k args.toArray h R
theorem cl {P : Program} {cd : Cd} {k n : Nat} {ts : List (Nat × Option TypeId)} {L : List Nat} {fn : Func} (hf : P.funcs[k]? = some fn) (hm : P.follows .mixedOrders = true) (hs : stripF P L fn = some cd) (hr : resSlots fn = ts)
    (hn : (decide (n ≤ fn.ntmps) && L.all (fun t => decide (t < fn.ntmps))) = true) : Cl P cd k n ts L := by
  intro args h R hl hv
  rw [Bool.and_eq_true, decide_eq_true_eq] at hn
  exact hcalls_of_vc hm hf hs hr ⟨by rw [hl]; exact hn.1, hn.2⟩ hv
/-! Words for the printed code. -/
namespace Z
@[reducible] def t (x : Nat) : Operand := .tmp x
@[reducible] def b (n : Int) : Operand := .const (.int .u8 n)
@[reducible] def h (n : Int) : Operand := .const (.int .u16 n)
@[reducible] def w (n : Int) : Operand := .const (.int .u32 n)
@[reducible] def u (n : Int) : Operand := .const (.int .u64 n)
@[reducible] def i (n : Int) : Operand := .const (.int .i64 n)
@[reducible] def j (n : Int) : Operand := .const (.int .i32 n)
@[reducible] def T : Operand := .const (.bool true)
@[reducible] def F : Operand := .const (.bool false)
@[reducible] def st (l : List UInt8) : Operand := .const (.string ⟨l.toArray⟩)
@[reducible] def mv (x : Nat) : Op := .move (.tmp x)
@[reducible] def mo (x : Operand) : Op := .move x
@[reducible] def as' (x : Nat) : Op := .assign (.tmp x)
@[reducible] def ao (x : Operand) : Op := .assign x
@[reducible] def ld' (k x : Nat) : Op := .load k (.tmp x)
@[reducible] def fa (k x n : Nat) : Op := .fieldAddr k (.tmp x) n
@[reducible] def bt (o : BinOp) (k x y : Nat) : Op := .binOp o k (.tmp x) (.tmp y) k
@[reducible] def bo (o : BinOp) (k x : Nat) (y : Operand) : Op := .binOp o k (.tmp x) y k
@[reducible] def ex (x k : Nat) : Op := .extract (.tmp x) k
@[reducible] def pk (x : Nat) (y z : Operand) : Op := .pick (.tmp x) y z
@[reducible] def nc (x : Nat) : Op := .nilCheck (.tmp x)
@[reducible] def ia (k x y : Nat) : Op := .indexAddr k (.tmp x) (.tmp y)
@[reducible] def so (k x y : Nat) : Op := .store k (.tmp x) (.tmp y)
@[reducible] def nt (k x : Nat) : Op := .unOp .not k (.tmp x)
@[reducible] def ln (x k : Nat) : Op := .call { callee := .builtin .len, args := #[.tmp x], argTypes := #[k] }
@[reducible] def cf (g : Nat) (l : List Operand) (k : List TypeId) : Op := .call { callee := .value (.func g), args := l.toArray, argTypes := k.toArray }
@[reducible] def m (d x k : Nat) : Sop := ⟨some (d, false), .move (.tmp x), k, none, true⟩
@[reducible] def a (d x k : Nat) : Sop := ⟨some (d, true), .assign (.tmp x), k, none, true⟩
@[reducible] def c (d : Nat) (x : Operand) (k : Nat) : Sop := ⟨some (d, true), .assign x, k, none, true⟩
@[reducible] def f (d k x n : Nat) : Sop := ⟨some (d, false), .fieldAddr k (.tmp x) n, 0, none, true⟩
@[reducible] def l (d k x : Nat) : Sop := ⟨some (d, false), .load k (.tmp x), k, none, true⟩
@[reducible] def e (d x n k : Nat) : Sop := ⟨some (d, false), .extract (.tmp x) n, k, none, true⟩
@[reducible] def gq (d : Nat) (o : Op) (k g : Nat) : Sop := ⟨some (d, false), o, k, some (g, true), true⟩
@[reducible] def hq (d : Nat) (o : Op) (k g : Nat) : Sop := ⟨some (d, false), o, k, some (g, false), true⟩
@[reducible] def gc (d : Nat) (o : Op) (k g : Nat) : Sop := ⟨some (d, false), o, k, some (g, true), false⟩
@[reducible] def hc (d : Nat) (o : Op) (k g : Nat) : Sop := ⟨some (d, false), o, k, some (g, false), false⟩
@[reducible] def gm (d x k g : Nat) : Sop := ⟨some (d, false), .move (.tmp x), k, some (g, true), true⟩
@[reducible] def hm (d x k g : Nat) : Sop := ⟨some (d, false), .move (.tmp x), k, some (g, false), true⟩
@[reducible] def p (x : Sop) : Sop × List Sop := (x, [])
@[reducible] def S (x y : Cd) : Cd := .seq x y
@[reducible] def R (x : List Sop) (y : Cd) : Cd := .seq (.region x) y
@[reducible] def D (x : List (Sop × List Sop)) (y : Cd) : Cd := .seq (.draw x) y
@[reducible] def I (x : Nat) (y z : Cd) : Cd := .cond (.tmp x) y z
@[reducible] def B (n : Nat) (y : Cd) : Cd := .block n y
theorem N {p q : Prop} (x : p) (y : q) : p ∧ q := ⟨x, y⟩
end Z
end Go.Vc
namespace Go.Vc
set_option linter.unusedSimpArgs false
set_option linter.unusedVariables false

def str (l : List UInt8) : Value := .string ⟨l.toArray⟩
theorem str_of (s : ByteArray) : Value.string s = str s.data.toList := by cases s; simp [str]
theorem str_inj {a b : List UInt8} (h : str a = str b) : a = b := by
  simp only [str, Value.string.injEq, ByteArray.mk.injEq] at h
  exact by simpa using congrArg Array.toList h
theorem str_fold {l : List UInt8} : Value.string ⟨l.toArray⟩ = str l := _root_.id rfl
theorem oneCell_str {l : List UInt8} : oneCell (str l) = true := rfl
theorem oneCell_int {k : IntKind} {n : Int} : oneCell (.int k n) = true := rfl
theorem oneCell_bool {b : Bool} : oneCell (.bool b) = true := rfl
theorem oneCell_ptr {a : Option Addr} : oneCell (.pointer a) = true := rfl
theorem oneCell_slice {a : Option Addr} {n c : Nat} : oneCell (.slice a n c) = true := rfl
theorem cells_str {l : List UInt8} : (str l).cells = #[str l] := rfl
theorem cells_int {k : IntKind} {n : Int} : (Value.int k n).cells = #[.int k n] := rfl
theorem cells_bool {b : Bool} : (Value.bool b).cells = #[.bool b] := rfl
theorem cells_ptr {a : Option Addr} : (Value.pointer a).cells = #[.pointer a] := rfl
theorem cells_slice {a : Option Addr} {n c : Nat} : (Value.slice a n c).cells = #[.slice a n c] := rfl
theorem cells_agg {cs : Array Value} : (Value.agg cs).cells = cs := rfl

theorem toList_loop (s : ByteArray) : ∀ (n i : Nat) (r : List UInt8), s.size - i = n → ByteArray.toList.loop s i r = r.reverse ++ s.data.toList.drop i := by
  have hlen : s.data.toList.length = s.size := Array.length_toList
  intro n
  induction n with
  | zero =>
    intro i r h
    rw [ByteArray.toList.loop, if_neg (by omega), List.drop_of_length_le (by omega), List.append_nil]
  | succ n ih =>
    intro i r h
    have hlt : i < s.size := by omega
    rw [ByteArray.toList.loop, if_pos hlt, ih (i + 1) _ (by omega)]
    have hd : s.data.toList.drop i = s.data.toList[i]'(by omega) :: s.data.toList.drop (i + 1) := by
      rw [List.drop_eq_getElem_cons]
    have hg : s.get! i = s.data.toList[i]'(by omega) := by
      show s.data[i]! = _
      have hlt' : i < s.data.size := hlt
      rw [getElem!_pos s.data i hlt']; rfl
    rw [hd, hg, List.reverse_cons, List.append_assoc]; rfl
theorem toList_mk (l : List UInt8) : (ByteArray.mk l.toArray).toList = l := by
  rw [ByteArray.toList, toList_loop _ _ 0 [] rfl]; rfl

section
variable {P : Program} {h : Heap} {t : TypeId} {x y : Operand}

theorem eqGuard_int {op : BinOp} {k k' : IntKind} {a b : Int} : eqGuard op t x y (.int k a) (.int k' b) = pure () := by
  unfold eqGuard; cases op <;> rfl
theorem eqGuard_str {op : BinOp} {a b : List UInt8} : eqGuard op t x y (str a) (str b) = pure () := by
  unfold eqGuard; cases op <;> rfl
theorem eqGuard_bool {op : BinOp} {a b : Bool} : eqGuard op t x y (.bool a) (.bool b) = pure () := by
  unfold eqGuard; cases op <;> rfl

theorem bin_add {k : IntKind} {a b : Int} : binE P .add t x y (.int k a) (.int k b) h = some (.int k (k.wrap (a + b))) := by
  unfold binE; rw [eqGuard_int, rd_bind', rd_pure]; simp [binOp, Op.intArith, rd_pure]
theorem bin_sub {k : IntKind} {a b : Int} : binE P .sub t x y (.int k a) (.int k b) h = some (.int k (k.wrap (a - b))) := by
  unfold binE; rw [eqGuard_int, rd_bind', rd_pure]; simp [binOp, Op.intArith, rd_pure]
theorem bin_mul {k : IntKind} {a b : Int} : binE P .mul t x y (.int k a) (.int k b) h = some (.int k (k.wrap (a * b))) := by
  unfold binE; rw [eqGuard_int, rd_bind', rd_pure]; simp [binOp, Op.intArith, rd_pure]
theorem bin_quo {k : IntKind} {a b : Int} (hb : b ≠ 0) : binE P .quo t x y (.int k a) (.int k b) h = some (.int k (k.wrap (a.tdiv b))) := by
  unfold binE; rw [eqGuard_int, rd_bind', rd_pure]; simp [binOp, Op.intDiv, hb, rd_pure]
theorem bin_rem {k : IntKind} {a b : Int} (hb : b ≠ 0) : binE P .rem t x y (.int k a) (.int k b) h = some (.int k (a.tmod b)) := by
  unfold binE; rw [eqGuard_int, rd_bind', rd_pure]; simp [binOp, Op.intDiv, hb, rd_pure]
theorem bin_eql {k : IntKind} {a b : Int} : binE P .eql t x y (.int k a) (.int k b) h = some (.bool (decide (a = b))) := by
  unfold binE; rw [eqGuard_int, rd_bind', rd_pure]; simp [binOp, Op.intCmp, rd_pure]; rfl
theorem bin_neq {k : IntKind} {a b : Int} : binE P .neq t x y (.int k a) (.int k b) h = some (.bool (decide (a ≠ b))) := by
  unfold binE; rw [eqGuard_int, rd_bind', rd_pure]; simp [binOp, Op.intCmp, rd_pure]; by_cases hab : a = b <;> simp [hab, bne]
theorem bin_lss {k : IntKind} {a b : Int} : binE P .lss t x y (.int k a) (.int k b) h = some (.bool (decide (a < b))) := by
  unfold binE; rw [eqGuard_int, rd_bind', rd_pure]; simp [binOp, Op.intCmp, rd_pure]
theorem bin_leq {k : IntKind} {a b : Int} : binE P .leq t x y (.int k a) (.int k b) h = some (.bool (decide (a ≤ b))) := by
  unfold binE; rw [eqGuard_int, rd_bind', rd_pure]; simp [binOp, Op.intCmp, rd_pure]
theorem bin_gtr {k : IntKind} {a b : Int} : binE P .gtr t x y (.int k a) (.int k b) h = some (.bool (decide (b < a))) := by
  unfold binE; rw [eqGuard_int, rd_bind', rd_pure]; simp [binOp, Op.intCmp, rd_pure]
theorem bin_geq {k : IntKind} {a b : Int} : binE P .geq t x y (.int k a) (.int k b) h = some (.bool (decide (b ≤ a))) := by
  unfold binE; rw [eqGuard_int, rd_bind', rd_pure]; simp [binOp, Op.intCmp, rd_pure]
theorem bin_shl {k k' : IntKind} {a b : Int} (hb : 0 ≤ b) : binE P .shl t x y (.int k a) (.int k' b) h = some (.int k (k.wrap (a * 2 ^ (min b.toNat k.bits)))) := by
  unfold binE; rw [eqGuard_int, rd_bind', rd_pure]; simp [binOp, Op.shift, rd_pure, show ¬ b < 0 by omega]
theorem bin_shr {k k' : IntKind} {a b : Int} (hb : 0 ≤ b) : binE P .shr t x y (.int k a) (.int k' b) h = some (.int k (a.fdiv (2 ^ (min b.toNat k.bits)))) := by
  unfold binE; rw [eqGuard_int, rd_bind', rd_pure]; simp [binOp, Op.shift, rd_pure, show ¬ b < 0 by omega]
def bitsV (op : BinOp) (k : IntKind) (a b : Int) : Int :=
  let x := BitVec.ofInt k.bits a
  let y := BitVec.ofInt k.bits b
  k.wrap (match op with
    | .and => (x &&& y).toNat
    | .or => (x ||| y).toNat
    | .xor => (x ^^^ y).toNat
    | _ => (x &&& ~~~y).toNat)
theorem bin_and {k : IntKind} {a b : Int} : binE P .and t x y (.int k a) (.int k b) h = some (.int k (bitsV .and k a b)) := by
  unfold binE; rw [eqGuard_int, rd_bind', rd_pure]; simp [binOp, Op.intBits, rd_pure, bitsV]
theorem bin_or {k : IntKind} {a b : Int} : binE P .or t x y (.int k a) (.int k b) h = some (.int k (bitsV .or k a b)) := by
  unfold binE; rw [eqGuard_int, rd_bind', rd_pure]; simp [binOp, Op.intBits, rd_pure, bitsV]
theorem bin_xor {k : IntKind} {a b : Int} : binE P .xor t x y (.int k a) (.int k b) h = some (.int k (bitsV .xor k a b)) := by
  unfold binE; rw [eqGuard_int, rd_bind', rd_pure]; simp [binOp, Op.intBits, rd_pure, bitsV]
theorem bin_andNot {k : IntKind} {a b : Int} : binE P .andNot t x y (.int k a) (.int k b) h = some (.int k (bitsV .andNot k a b)) := by
  unfold binE; rw [eqGuard_int, rd_bind', rd_pure]; simp [binOp, Op.intBits, rd_pure, bitsV]

theorem bin_str_add {a b : List UInt8} (hl : a.length + b.length ≤ 9223372036854775807) : binE P .add t x y (str a) (str b) h = some (str (a ++ b)) := by
  unfold binE; rw [eqGuard_str, rd_bind', rd_pure]
  have hm : IntKind.i64.max = 9223372036854775807 := rfl
  have hs : ¬ ((((ByteArray.mk a.toArray).size + (ByteArray.mk b.toArray).size : Nat) : Int) > IntKind.i64.max) := by
    rw [hm]; simp only [ByteArray.size, List.size_toArray]; omega
  simp only [Option.bind_some, binOp, str, Op.stringOp, if_neg hs, rd_pure, Option.some.injEq, Value.string.injEq]
  apply ByteArray.ext
  simp [ByteArray.data_append]
theorem bin_str_eql {a b : List UInt8} : binE P .eql t x y (str a) (str b) h = some (.bool (decide (a = b))) := by
  unfold binE; rw [eqGuard_str, rd_bind', rd_pure]
  simp only [Option.bind_some, binOp, str, Op.stringOp, toList_mk, rd_pure]
  congr 2
  by_cases hab : a = b <;> simp [hab]
theorem bin_str_neq {a b : List UInt8} : binE P .neq t x y (str a) (str b) h = some (.bool (decide (a ≠ b))) := by
  unfold binE; rw [eqGuard_str, rd_bind', rd_pure]
  simp only [Option.bind_some, binOp, str, Op.stringOp, toList_mk, rd_pure]
  congr 2
  by_cases hab : a = b <;> simp [hab]

theorem rd_underlying {d : TypeDesc} (hu : P.underlying t = some d) : rd P (underlying t) h = some d := by
  show (match rd P (match P.underlying t with | some d => pure d | none => stuck "no such type") h with | v => v) = _
  rw [hu]; rfl
theorem rd_typeInfo {i : TypeInfo} (hi : P.info? t = some i) : rd P (typeInfo t) h = some i := by
  show rd P (match P.info? t with | some i => pure i | none => stuck "no such type") h = _
  rw [hi]; rfl
theorem rd_sizeOf {i : TypeInfo} (hi : P.info? t = some i) : rd P (sizeOf t) h = some i.size := by
  unfold sizeOf; rw [rd_bind', rd_typeInfo hi]; rfl
theorem rd_isAgg {d : TypeDesc} (hu : P.underlying t = some d) : rd P (isAgg t) h = some (match d with | .struct _ | .array _ _ => true | _ => false) := by
  unfold isAgg; rw [rd_bind', rd_underlying hu]; cases d <;> rfl

theorem rd_eq_bool {d : Nat} {a b : Bool} (hu : P.underlying t = some .bool) : rd P (Op.equalIn (d + 1) t (.bool a) (.bool b)) h = some (a == b) := by
  rw [Op.equalIn, rd_bind', rd_underlying hu]; rfl
theorem bin_bool_eql {a b : Bool} (hu : P.underlying t = some .bool) : binE P .eql t x y (.bool a) (.bool b) h = some (.bool (decide (a = b))) := by
  unfold binE; rw [eqGuard_bool, rd_bind', rd_pure, Option.bind_some]
  show rd P (Op.equalIn (9999 + 1) t (.bool a) (.bool b) >>= fun b => pure (Value.bool b)) h = _
  rw [rd_bind', rd_eq_bool hu, Option.bind_some]
  cases a <;> cases b <;> rfl
theorem bin_bool_neq {a b : Bool} (hu : P.underlying t = some .bool) : binE P .neq t x y (.bool a) (.bool b) h = some (.bool (decide (a ≠ b))) := by
  unfold binE; rw [eqGuard_bool, rd_bind', rd_pure, Option.bind_some]
  show rd P (Op.equalIn (9999 + 1) t (.bool a) (.bool b) >>= fun b => pure (Value.bool (!b))) h = _
  rw [rd_bind', rd_eq_bool hu, Option.bind_some]
  cases a <;> cases b <;> rfl

theorem un_not {b : Bool} : unE P .not (.bool b) h = some (.bool !b) := rfl
theorem un_neg {k : IntKind} {a : Int} : unE P .neg (.int k a) h = some (.int k (k.wrap (0 - a))) := rfl

theorem cv_int {s d : TypeId} {ds : TypeDesc} {k k' : IntKind} {n : Int} (hs : P.underlying s = some ds) (hd : P.underlying d = some (.int k')) : cvE P s d (.int k n) h = some (.int k' (k'.wrap n)) := by
  unfold cvE convert
  rw [rd_bind', rd_underlying hs, Option.bind_some, rd_bind', rd_underlying hd, Option.bind_some]
  cases ds <;> rfl

theorem len_str {ty : TypeId} {l : List UInt8} (hu : P.underlying t = some .string) : lenE P t ty (str l) h = some (.int .i64 l.length) := by
  unfold lenE Builtin.len_
  simp only [str, List.getElem?_toArray, List.getElem?_cons_zero, rd_bind', rd_underlying hu, Option.bind_some]
  rfl
theorem len_slice {ty e : TypeId} {a : Option Addr} {n c : Nat} (hu : P.underlying t = some (.slice e)) : lenE P t ty (.slice a n c) h = some (.int .i64 n) := by
  unfold lenE Builtin.len_
  simp only [List.getElem?_toArray, List.getElem?_cons_zero, rd_bind', rd_underlying hu, Option.bind_some]
  rfl

theorem ix_str {l : List UInt8} {k : IntKind} {i : Int} (hu : P.underlying t = some .string) (h0 : 0 ≤ i) (h1 : i < l.length) : ixE P t (str l) (.int k i) h = some (.int .u8 ((l.getD i.toNat 0).toNat : Int)) := by
  have hlt : i.toNat < l.length := by omega
  unfold ixE Instr.index
  simp only [asIntOf, rd_bind', rd_pure, Option.bind_some, rd_underlying hu, str, if_pos h0]
  have hg : (ByteArray.mk l.toArray)[i.toNat]? = some l[i.toNat] := by
    have : i.toNat < (ByteArray.mk l.toArray).size := by simpa [ByteArray.size] using hlt
    rw [getElem?_pos (ByteArray.mk l.toArray) i.toNat this]
    rfl
  simp only [hg, rd_pure, Option.some.injEq, Value.int.injEq, true_and]
  simp [hlt]

theorem rd_bound {k : IntKind} {i : Int} {n : Nat} {c : BoundsCode} (h0 : 0 ≤ i) (h1 : i ≤ n) : rd P (Instr.sliceBound (.int k i) n c) h = some i.toNat := by
  unfold Instr.sliceBound
  simp only [asIntOf, rd_bind', rd_pure, Option.bind_some]
  rw [if_pos ⟨h0, h1⟩]; rfl

theorem extract_mk (l : List UInt8) (a b : Nat) : (ByteArray.mk l.toArray).extract a b = ⟨((l.take b).drop a).toArray⟩ := by
  apply ByteArray.ext
  rw [ByteArray.data_extract]
  apply Array.toList_inj.1; simp [List.extract_eq_take_drop, List.drop_take]

theorem sl_str_lh {l : List UInt8} {k k' : IntKind} {a b : Int} (hu : P.underlying t = some .string) (h0 : 0 ≤ a) (h1 : a ≤ b) (h2 : b ≤ l.length) :
    slE P t (str l) (some (.int k a)) (some (.int k' b)) none h = some (str ((l.take b.toNat).drop a.toNat)) := by
  unfold slE Instr.sliceAt
  rw [rd_bind', rd_underlying hu, Option.bind_some]
  simp only [Instr.slice, rd_bind', rd_underlying hu, Option.bind_some, str, Option.isSome_none, Bool.false_eq_true, if_false, Instr.sliceBounds, rd_pure]
  rw [rd_bound (by omega) (by simp only [ByteArray.size, List.size_toArray]; omega)]
  simp only [Option.bind_some]
  rw [rd_bound h0 (by omega)]
  simp only [Option.bind_some, extract_mk]
theorem sl_str_l {l : List UInt8} {k : IntKind} {a : Int} (hu : P.underlying t = some .string) (h0 : 0 ≤ a) (h2 : a ≤ l.length) :
    slE P t (str l) (some (.int k a)) none none h = some (str (l.drop a.toNat)) := by
  unfold slE Instr.sliceAt
  rw [rd_bind', rd_underlying hu, Option.bind_some]
  simp only [Instr.slice, rd_bind', rd_underlying hu, Option.bind_some, str, Option.isSome_none, Bool.false_eq_true, if_false, Instr.sliceBounds, rd_pure]
  rw [rd_bound h0 (by simp only [ByteArray.size, List.size_toArray]; omega)]
  simp only [Option.bind_some, extract_mk]
  simp [ByteArray.size]
theorem sl_str_h {l : List UInt8} {k' : IntKind} {b : Int} (hu : P.underlying t = some .string) (h1 : 0 ≤ b) (h2 : b ≤ l.length) :
    slE P t (str l) none (some (.int k' b)) none h = some (str (l.take b.toNat)) := by
  unfold slE Instr.sliceAt
  rw [rd_bind', rd_underlying hu, Option.bind_some]
  simp only [Instr.slice, rd_bind', rd_underlying hu, Option.bind_some, str, Option.isSome_none, Bool.false_eq_true, if_false, Instr.sliceBounds, rd_pure]
  rw [rd_bound h1 (by simp only [ByteArray.size, List.size_toArray]; omega)]
  simp only [Option.bind_some, extract_mk, List.drop_zero]
end

/-! ### Without wraps -/
theorem wrap_i64 {x : Int} (h0 : -9223372036854775808 ≤ x) (h1 : x < 9223372036854775808) : IntKind.i64.wrap x = x := by
  simp only [IntKind.wrap, IntKind.bits, IntKind.signed, Bool.true_and, decide_eq_true_eq, Nat.reduceSub, Int.reducePow]
  split <;> rename_i hh <;> simp at hh <;> omega
theorem wrap_i32 {x : Int} (h0 : -2147483648 ≤ x) (h1 : x < 2147483648) : IntKind.i32.wrap x = x := by
  simp only [IntKind.wrap, IntKind.bits, IntKind.signed, Bool.true_and, decide_eq_true_eq, Nat.reduceSub, Int.reducePow]
  split <;> rename_i hh <;> simp at hh <;> omega
theorem wrap_u8 {x : Int} (h0 : 0 ≤ x) (h1 : x < 256) : IntKind.u8.wrap x = x := by
  simp only [IntKind.wrap, IntKind.bits, IntKind.signed, Bool.false_and, Bool.false_eq_true, if_false, Int.reducePow]; omega
theorem wrap_u16 {x : Int} (h0 : 0 ≤ x) (h1 : x < 65536) : IntKind.u16.wrap x = x := by
  simp only [IntKind.wrap, IntKind.bits, IntKind.signed, Bool.false_and, Bool.false_eq_true, if_false, Int.reducePow]; omega
theorem wrap_u32 {x : Int} (h0 : 0 ≤ x) (h1 : x < 4294967296) : IntKind.u32.wrap x = x := by
  simp only [IntKind.wrap, IntKind.bits, IntKind.signed, Bool.false_and, Bool.false_eq_true, if_false, Int.reducePow]; omega
theorem wrap_u64 {x : Int} (h0 : 0 ≤ x) (h1 : x < 18446744073709551616) : IntKind.u64.wrap x = x := by
  simp only [IntKind.wrap, IntKind.bits, IntKind.signed, Bool.false_and, Bool.false_eq_true, if_false, Int.reducePow]; omega

theorem wrap_nonneg {k : IntKind} (hk : k.signed = false) {x : Int} (h0 : 0 ≤ x) (h1 : x < 2 ^ k.bits) : k.wrap x = x := by
  simp only [IntKind.wrap, hk, Bool.false_and, Bool.false_eq_true, if_false]
  exact Int.emod_eq_of_lt h0 h1

theorem bits_and {k : IntKind} (hk : k.signed = false) (a b : Nat) (ha : a < 2 ^ k.bits) (hb : b < 2 ^ k.bits) : bitsV .and k a b = ((a &&& b : Nat) : Int) := by
  have h1 : (BitVec.ofInt k.bits (a : Int)) = BitVec.ofNat k.bits a := by simp
  have h2 : (BitVec.ofInt k.bits (b : Int)) = BitVec.ofNat k.bits b := by simp
  simp only [bitsV, h1, h2, BitVec.toNat_and, BitVec.toNat_ofNat, Nat.mod_eq_of_lt ha, Nat.mod_eq_of_lt hb]
  refine wrap_nonneg hk (by omega) ?_
  have : a &&& b < 2 ^ k.bits := Nat.and_lt_two_pow a hb
  exact_mod_cast this
theorem bits_or {k : IntKind} (hk : k.signed = false) (a b : Nat) (ha : a < 2 ^ k.bits) (hb : b < 2 ^ k.bits) : bitsV .or k a b = ((a ||| b : Nat) : Int) := by
  have h1 : (BitVec.ofInt k.bits (a : Int)) = BitVec.ofNat k.bits a := by simp
  have h2 : (BitVec.ofInt k.bits (b : Int)) = BitVec.ofNat k.bits b := by simp
  simp only [bitsV, h1, h2, BitVec.toNat_or, BitVec.toNat_ofNat, Nat.mod_eq_of_lt ha, Nat.mod_eq_of_lt hb]
  refine wrap_nonneg hk (by omega) ?_
  have : a ||| b < 2 ^ k.bits := Nat.or_lt_two_pow ha hb
  exact_mod_cast this

theorem bits_8 : IntKind.u8.bits = 8 := rfl
theorem bits_16 : IntKind.u16.bits = 16 := rfl
theorem bits_32 : IntKind.u32.bits = 32 := rfl
theorem bits_64 : IntKind.u64.bits = 64 := rfl
theorem bits_i64 : IntKind.i64.bits = 64 := rfl
theorem bits_i32 : IntKind.i32.bits = 32 := rfl

/-! ### Places, by the program's own types (the side conditions are closed) -/
section
variable {P : Program} {h : Heap}
def faT (P : Program) (s : TypeId) (f off : Nat) : Bool := match P.underlying s with
  | some (.struct fs) => match fs[f]? with
    | some fld => fld.offset == off && (match P.info? fld.type with
      | some i => decide (0 < i.size)
      | none => false)
    | none => false
  | _ => false
theorem addr_add {b o n : Nat} : (⟨b, o, none⟩ : Addr).add n = ⟨b, o + n, none⟩ := by unfold Addr.add; split <;> simp_all
theorem fa_of {s : TypeId} {f off b o : Nat} (ht : faT P s f off = true) : faE P s (.pointer (some ⟨b, o, none⟩)) f h = some (.pointer (some ⟨b, o + off, none⟩)) := by
  unfold faT at ht
  cases hu : P.underlying s with
  | none => rw [hu] at ht; cases ht
  | some d =>
    rw [hu] at ht
    cases d <;> simp only [Bool.false_eq_true] at ht
    rename_i fs
    cases hf : fs[f]? with
    | none => rw [hf] at ht; cases ht
    | some fld =>
      rw [hf] at ht
      simp only [Bool.and_eq_true, beq_iff_eq] at ht
      cases hi : P.info? fld.type with
      | none => rw [hi] at ht; cases ht.2
      | some i =>
        rw [hi] at ht
        simp only [decide_eq_true_eq] at ht
        unfold faE Instr.fieldAt
        simp only [rd_bind', rd_underlying hu, Option.bind_some, hf, Instr.sureAddr, rd_pure, fieldPlace, rd_sizeOf hi]
        rw [if_neg (by omega)]
        simp only [rd_pure, Option.bind_some, addr_add, ht.1]
def fdT (P : Program) (s : TypeId) (f off sz : Nat) (agg : Bool) : Bool := match P.underlying s with
  | some (.struct fs) => match fs[f]? with
    | some fld => fld.offset == off && (match P.underlying fld.type with
      | some (.struct _) | some (.array _ _) => agg
      | some _ => !agg
      | none => false) && (match P.info? fld.type with
      | some i => i.size == sz
      | none => false)
    | none => false
  | _ => false
theorem fd_of {s : TypeId} {f off sz : Nat} {agg : Bool} {cs : Array Value} (ht : fdT P s f off sz agg = true) : fdE P s (.agg cs) f h = if agg then some (.agg (cs.extract off (off + sz))) else cs[off]? := by
  unfold fdT at ht
  cases hu : P.underlying s with
  | none => rw [hu] at ht; cases ht
  | some d =>
    rw [hu] at ht
    cases d <;> simp only [Bool.false_eq_true] at ht
    rename_i fs
    cases hf : fs[f]? with
    | none => rw [hf] at ht; cases ht
    | some fld =>
      rw [hf] at ht
      simp only [Bool.and_eq_true, beq_iff_eq] at ht
      obtain ⟨⟨h1, h2⟩, h3⟩ := ht
      cases hi : P.info? fld.type with
      | none => rw [hi] at h3; cases h3
      | some i =>
        rw [hi] at h3
        have h3 : i.size = sz := by simpa using h3
        cases hu2 : P.underlying fld.type with
        | none => rw [hu2] at h2; cases h2
        | some d2 =>
          rw [hu2] at h2
          unfold fdE Instr.field
          simp only [rd_bind', rd_underlying hu, Option.bind_some, hf, asAgg, rd_pure, part, rd_isAgg hu2]
          cases d2 <;> simp only [Bool.not_eq_true'] at h2 <;> subst h2 <;> first
            | (simp only [if_true, rd_bind', rd_sizeOf hi, Option.bind_some, h3, h1, rd_pure]; done)
            | (simp only [Bool.false_eq_true, if_false, h1]; cases cs[off]? <;> rfl)
def ixT (P : Program) (t : TypeId) (size : Nat) : Bool := match P.underlying t with
  | some (.slice e) => match P.info? e with
    | some i => i.size == size
    | none => false
  | _ => false
theorem ia_of {t : TypeId} {size b o n c : Nat} {k : IntKind} {i : Int} (ht : ixT P t size = true) (h0 : 0 ≤ i) (h1 : i < n) :
    iaE P t (.slice (some ⟨b, o, none⟩) n c) (.int k i) h = some (.pointer (some ⟨b, o + i.toNat * size, none⟩)) := by
  unfold ixT at ht
  cases hu : P.underlying t with
  | none => rw [hu] at ht; cases ht
  | some d =>
    rw [hu] at ht
    cases d <;> simp only [Bool.false_eq_true] at ht
    rename_i e
    cases hi : P.info? e with
    | none => rw [hi] at ht; cases ht
    | some inf =>
      rw [hi] at ht
      have hs : inf.size = size := by simpa using ht
      unfold iaE Instr.indexAt
      simp only [asIntOf, rd_bind', rd_pure, Option.bind_some, rd_underlying hu, if_pos (And.intro h0 h1), rd_sizeOf hi, hs, addr_add]
end
end Go.Vc
namespace Go.Vc
set_option linter.unusedSimpArgs false
set_option linter.unusedVariables false

/-! ### Cells -/
theorem cellAt_push_new {h : Heap} {cs : Array Value} {e : TypeId} {fz : Nat × Nat} {j : Nat} : cellAt (h.push (.cells cs e fz)) ⟨h.size, j, none⟩ = cs[j]? := by
  simp [cellAt]
theorem cellAt_push_old {h : Heap} {o : Obj} {b j : Nat} {sp : Option Nat} (hb : b < h.size) : cellAt (h.push o) ⟨b, j, sp⟩ = cellAt h ⟨b, j, sp⟩ := by
  simp [cellAt, Array.getElem?_push, show ¬ b = h.size by omega]
theorem cellAt_of {h : Heap} {b j : Nat} {cs : Array Value} {e : TypeId} {fz : Nat × Nat} (hb : h[b]? = some (.cells cs e fz)) : cellAt h ⟨b, j, none⟩ = cs[j]? := by
  simp [cellAt, hb]
theorem cellAt_lt {h : Heap} {b j : Nat} {sp : Option Nat} {v : Value} (hc : cellAt h ⟨b, j, sp⟩ = some v) : b < h.size := by
  rcases Nat.lt_or_ge b h.size with h' | h'
  · exact h'
  · simp [cellAt, Array.getElem?_eq_none h'] at hc
theorem cellAt_block {h h' : Heap} {b j : Nat} {sp : Option Nat} (hb : h'[b]? = h[b]?) : cellAt h' ⟨b, j, sp⟩ = cellAt h ⟨b, j, sp⟩ := by simp [cellAt, hb]
theorem frozenAt_block {h h' : Heap} {b j : Nat} {sp : Option Nat} (hb : h'[b]? = h[b]?) : frozenAt h' ⟨b, j, sp⟩ = frozenAt h ⟨b, j, sp⟩ := by simp [frozenAt, hb]

theorem rd_load {P : Program} {h : Heap} {a : Addr} : rd P (load a) h = cellAt h a := by
  unfold load; simp only [rd]
  cases cellAt h a <;> rfl

/-- All loads of a type look at one block alone. -/
theorem rd_loadCells_block {P : Program} {h h' : Heap} {b : Nat} (hb : h'[b]? = h[b]?) : ∀ (n : Nat) (o : Nat) (sp : Option Nat) (i : Nat) (acc : Array Value), rd P (loadCellsFrom ⟨b, o, sp⟩ i n acc) h' = rd P (loadCellsFrom ⟨b, o, sp⟩ i n acc) h := by
  intro n
  induction n with
  | zero => intro o sp i acc; rfl
  | succ n ih =>
    intro o sp i acc
    simp only [loadCellsFrom, rd_bind', rd_load]
    have : cellAt h' ((⟨b, o, sp⟩ : Addr).add i) = cellAt h ((⟨b, o, sp⟩ : Addr).add i) := by
      unfold Addr.add; split <;> exact cellAt_block hb
    rw [this]
    cases cellAt h ((⟨b, o, sp⟩ : Addr).add i) with
    | none => rfl
    | some v => exact ih o sp (i + 1) (acc.push v)
theorem rd_isAgg_any {P : Program} {t : TypeId} {h h' : Heap} : rd P (isAgg t) h' = rd P (isAgg t) h := rd_noHeap _ (noHeap_isAgg t) h' h
theorem rd_sizeOf_any {P : Program} {t : TypeId} {h h' : Heap} : rd P (sizeOf t) h' = rd P (sizeOf t) h := rd_noHeap _ (noHeap_sizeOf t) h' h
theorem ld_block {P : Program} {t : TypeId} {h h' : Heap} {b o : Nat} {sp : Option Nat} (hb : h'[b]? = h[b]?) : ld P t ⟨b, o, sp⟩ h' = ld P t ⟨b, o, sp⟩ h := by
  unfold ld loadVar
  rw [rd_bind', rd_bind', rd_isAgg_any]
  cases rd P (isAgg t) h with
  | none => rfl
  | some g =>
    simp only [Option.bind_some]
    split
    · rw [rd_bind', rd_bind', rd_sizeOf_any]
      cases rd P (sizeOf t) h with
      | none => rfl
      | some n => simp only [Option.bind_some, rd_bind', loadCells, rd_loadCells_block (P := P) hb n o sp 0 #[]]; rfl
    · rw [rd_load, rd_load, cellAt_block hb]
theorem ld_push_old {P : Program} {t : TypeId} {h : Heap} {ob : Obj} {b o : Nat} {sp : Option Nat} (hb : b < h.size) : ld P t ⟨b, o, sp⟩ (h.push ob) = ld P t ⟨b, o, sp⟩ h :=
  ld_block (by simp [Array.getElem?_push, show ¬ b = h.size by omega])

def cellT (P : Program) (t : TypeId) : Bool := match P.underlying t with
  | some (.struct _) | some (.array _ _) | none => false
  | _ => true
theorem ld_cell {P : Program} {t : TypeId} (ht : cellT P t = true) {h : Heap} {a : Addr} : ld P t a h = cellAt h a := by
  unfold cellT at ht
  unfold ld loadVar
  rw [rd_bind']
  cases hu : P.underlying t with
  | none => rw [hu] at ht; cases ht
  | some d =>
    rw [rd_isAgg hu]
    rw [hu] at ht
    cases d <;> first | (simp at ht; done) | exact rd_load

theorem rd_loadCells_some {P : Program} {h : Heap} {b o : Nat} : ∀ (n i : Nat) (acc : Array Value) (vs : List Value), vs.length = n → (∀ j v, vs[j]? = some v → cellAt h ⟨b, o + (i + j), none⟩ = some v) →
    rd P (loadCellsFrom ⟨b, o, none⟩ i n acc) h = some (acc ++ vs.toArray) := by
  intro n
  induction n with
  | zero => intro i acc vs hl hv; have : vs = [] := List.eq_nil_of_length_eq_zero hl; subst this; simp [loadCellsFrom, rd_pure]
  | succ n ih =>
    intro i acc vs hl hv
    cases vs with
    | nil => simp at hl
    | cons v vs =>
      simp only [loadCellsFrom, rd_bind', rd_load]
      have h0 := hv 0 v rfl
      have ha : (⟨b, o, none⟩ : Addr).add i = ⟨b, o + i, none⟩ := by unfold Addr.add; split <;> simp_all
      rw [ha]
      simp only [Nat.add_zero] at h0
      rw [h0, Option.bind_some, ih (i + 1) (acc.push v) vs (by simpa using hl) (fun j u hu => by have := hv (j + 1) u (by simpa using hu); rwa [show o + (i + 1 + j) = o + (i + (j + 1)) by omega])]
      simp

/-- Cells from a place on. -/
def Rd (h : Heap) (b o : Nat) (vs : List Value) : Prop := ∀ j v, vs[j]? = some v → cellAt h ⟨b, o + j, none⟩ = some v
theorem Rd.block {h h' : Heap} {b o : Nat} {vs : List Value} (H : Rd h b o vs) (hb : h'[b]? = h[b]?) : Rd h' b o vs := fun j v hv => by rw [cellAt_block hb]; exact H j v hv
theorem rd_loadCells {P : Program} {h : Heap} {b o n : Nat} {vs : List Value} (H : Rd h b o vs) (hl : vs.length = n) : rd P (loadCells ⟨b, o, none⟩ n) h = some vs.toArray := by
  unfold loadCells
  rw [rd_loadCells_some n 0 #[] vs hl (fun j v hv => by rw [Nat.zero_add]; exact H j v hv)]; simp

def aggT (P : Program) (t : TypeId) (n : Nat) : Bool := (match P.underlying t with
  | some (.struct _) | some (.array _ _) => true
  | _ => false) && (match P.info? t with
  | some i => i.size == n
  | none => false)
theorem ld_agg {P : Program} {t : TypeId} {n : Nat} (ht : aggT P t n = true) {h : Heap} {b o : Nat} {vs : List Value} (H : Rd h b o vs) (hl : vs.length = n) : ld P t ⟨b, o, none⟩ h = some (.agg vs.toArray) := by
  unfold aggT at ht
  rw [Bool.and_eq_true] at ht
  obtain ⟨h1, h2⟩ := ht
  cases hu : P.underlying t with
  | none => rw [hu] at h1; cases h1
  | some d =>
    cases hi : P.info? t with
    | none => rw [hi] at h2; cases h2
    | some i =>
      rw [hi] at h2
      have hsz : i.size = n := by simpa using h2
      unfold ld loadVar
      rw [rd_bind', rd_isAgg hu]
      rw [hu] at h1
      have fin : rd P (do let s ← sizeOf t; let c ← loadCells ⟨b, o, none⟩ s; pure (Value.agg c)) h = some (.agg vs.toArray) := by
        simp only [rd_bind', rd_sizeOf hi, Option.bind_some, hsz, rd_loadCells H hl, rd_pure]
      cases d <;> first | (simp at h1; done) | exact fin

/-! ### What has turned -/
structure Fr (S : Nat → Prop) (h h' : Heap) : Prop where
  size : h.size ≤ h'.size
  same : ∀ k, k < h.size → ¬ S k → h'[k]? = h[k]?
theorem Fr.refl (S : Nat → Prop) (h : Heap) : Fr S h h := ⟨Nat.le_refl _, fun _ _ _ => rfl⟩
theorem Fr.trans {S S' T : Nat → Prop} {a b c : Heap} (H : Fr S a b) (K : Fr S' b c) (h1 : ∀ k, k < a.size → S k → T k) (h2 : ∀ k, k < a.size → S' k → T k) : Fr T a c :=
  ⟨Nat.le_trans H.size K.size, fun k hk hT => (K.same k (Nat.lt_of_lt_of_le hk H.size) (fun h => hT (h2 k hk h))).trans (H.same k hk (fun h => hT (h1 k hk h)))⟩
theorem Fr.mono {S T : Nat → Prop} {a b : Heap} (H : Fr S a b) (h1 : ∀ k, k < a.size → S k → T k) : Fr T a b := ⟨H.size, fun k hk hT => H.same k hk fun h => hT (h1 k hk h)⟩
theorem Fr.push (S : Nat → Prop) (h : Heap) (o : Obj) : Fr S h (h.push o) := ⟨by simp, fun k hk _ => by simp [Array.getElem?_push, show ¬ k = h.size by omega]⟩
theorem Fr.set {S : Nat → Prop} (h : Heap) (a : Addr) (v : Value) (hS : a.block < h.size → S a.block) : Fr S h (setAt h a v) := by
  refine ⟨by simp [setAt], fun k hk hn => ?_⟩
  have : a.block ≠ k := fun e => hn (e ▸ hS (e ▸ hk))
  simp [setAt, Array.getElem?_modify, this]
abbrev Ext := Fr fun _ => False
theorem Fr.ld {S : Nat → Prop} {h h' : Heap} (H : Fr S h h') {P : Program} {t : TypeId} {b o : Nat} {sp : Option Nat} (hb : b < h.size) (hS : ¬ S b) : ld P t ⟨b, o, sp⟩ h' = ld P t ⟨b, o, sp⟩ h := ld_block (H.same b hb hS)
theorem Fr.cell {S : Nat → Prop} {h h' : Heap} (H : Fr S h h') {b o : Nat} {sp : Option Nat} (hb : b < h.size) (hS : ¬ S b) : cellAt h' ⟨b, o, sp⟩ = cellAt h ⟨b, o, sp⟩ := cellAt_block (H.same b hb hS)
theorem Fr.rd {S : Nat → Prop} {h h' : Heap} (H : Fr S h h') {b o : Nat} {vs : List Value} (hr : Rd h b o vs) (hb : b < h.size) (hS : ¬ S b) : Rd h' b o vs := hr.block (H.same b hb hS)
theorem Ext.ld {h h' : Heap} (H : Ext h h') {P : Program} {t : TypeId} {b o : Nat} {sp : Option Nat} (hb : b < h.size) : Go.Vc.ld P t ⟨b, o, sp⟩ h' = Go.Vc.ld P t ⟨b, o, sp⟩ h := Fr.ld H hb id
theorem Ext.trans {a b c : Heap} (H : Ext a b) (K : Ext b c) : Ext a c := Fr.trans H K (fun _ _ h => h) (fun _ _ h => h)
theorem Ext.refl (h : Heap) : Ext h h := Fr.refl _ h
theorem Ext.push (h : Heap) (o : Obj) : Ext h (h.push o) := Fr.push _ h o

theorem setAt_get {h : Heap} {b o : Nat} {cs : Array Value} {e : TypeId} {fz : Nat × Nat} (hb : h[b]? = some (.cells cs e fz)) (v : Value) : (setAt h ⟨b, o, none⟩ v)[b]? = some (.cells (cs.setIfInBounds o v) e fz) := by
  simp [setAt, Array.getElem?_modify, hb]
theorem setAt_ne {h : Heap} {a : Addr} {k : Nat} (hk : k ≠ a.block) (v : Value) : (setAt h a v)[k]? = h[k]? := by
  simp [setAt, Array.getElem?_modify, Ne.symm hk]
theorem setAt_size {h : Heap} {a : Addr} {v : Value} : (setAt h a v).size = h.size := by simp [setAt]

/-! ### Making -/
section
variable {P : Program} {τ ρ : Env} {h : Heap} {K : Value → Heap → Prop} {ty : TypeId}

theorem eff_1 {op : Op} {x : Operand} (ho : op.operands = #[x]) {v : Value} (hx : evo τ ρ x = some v)
    (H : ∀ e : Operand → Value, e x = v → sr P (execOp e (Sop.oper ⟨none, op, ty, none, false⟩)) h (fun nx h' => nextTo P K nx h')) : eff P op ty τ ρ h K :=
  ⟨by rw [known_1 ho]; simp [hx], H _ (by simp [evd, hx])⟩
theorem eff_2 {op : Op} {x y : Operand} (ho : op.operands = #[x, y]) {v u : Value} (hx : evo τ ρ x = some v) (hy : evo τ ρ y = some u)
    (H : ∀ e : Operand → Value, e x = v → e y = u → sr P (execOp e (Sop.oper ⟨none, op, ty, none, false⟩)) h (fun nx h' => nextTo P K nx h')) : eff P op ty τ ρ h K :=
  ⟨by rw [known_2 ho]; simp [hx, hy], H _ (by simp [evd, hx]) (by simp [evd, hy])⟩

theorem sr_of_run {α : Type} {s : Sem α} {h : Heap} {K : α → Heap → Prop} (H : ∀ w : World, w.heap = h → ∃ v w', s.run P w = .ok v w' ∧ Same w w' ∧ K v w'.heap) : sr P s h K := H
theorem sr_v {s : Sem Value} (H : sr P s h K) : sr P (do pure (Next.value (← s))) h (fun nx h' => nextTo P K nx h') := by
  intro w hw
  obtain ⟨v, w', h1, h2, h3⟩ := H w hw
  refine ⟨.value v, w', ?_, h2, h3⟩
  rw [Sem.run_bind, h1]; rfl
theorem sr_u {s : Sem Unit} (H : sr P s h (fun _ h' => K undef h')) : sr P (do s; pure Next.skip) h (fun nx h' => nextTo P K nx h') := by
  intro w hw
  obtain ⟨v, w', h1, h2, h3⟩ := H w hw
  refine ⟨.skip, w', ?_, h2, h3⟩
  rw [Sem.run_bind, h1]; rfl

def kbox (K : Value → Heap → Prop) (h : Heap) (e : TypeId) : Value → Prop := fun v => K (.pointer (some ⟨h.size, 0, none⟩)) (h.push (.cells v.cells e))
theorem kbox_ap {K : Value → Heap → Prop} {h : Heap} {e : TypeId} {v : Value} : kbox K h e v = K (.pointer (some ⟨h.size, 0, none⟩)) (h.push (.cells v.cells e)) := _root_.id rfl
theorem eff_box {e : TypeId} {x : Operand} (H : OptK (evo τ ρ x) (kbox K h e)) : eff P (.box e x) ty τ ρ h K := by
  cases hx : evo τ ρ x with
  | none => rw [hx] at H; exact H.elim
  | some v =>
    rw [hx] at H
    refine eff_1 rfl hx fun e' he => ?_
    simp only [execOp, Sop.oper, he]
    exact sr_v (sr_of_hr H)

theorem eff_alloc {e : TypeId} {i : TypeInfo} {z : Value} (hi : P.info? e = some i) (hz : i.zero = some z) (H : K (.pointer (some ⟨h.size, 0, none⟩)) (h.push (.cells z.cells e))) : eff P (.alloc e) ty τ ρ h K := by
  refine ⟨by intro x hx; simp [Op.operands] at hx, ?_⟩
  simp only [execOp, Sop.oper]
  refine sr_v fun w hw => ?_
  subst hw
  refine ⟨.pointer (some ⟨w.heap.size, 0, none⟩), { w with heap := w.heap.push (.cells z.cells e) }, ?_, ⟨rfl, rfl, rfl⟩, H⟩
  have hzv : (zeroValue e).run P w = .ok z w := by
    refine rd_run _ w z ?_
    unfold zeroValue; rw [rd_bind', rd_typeInfo hi]
    show rd P (match i.zero with | some v => pure v | none => _) w.heap = _
    rw [hz]; rfl
  simp only [Instr.alloc, Sem.run_bind, hzv, Result.andThen]
  rfl

/-! #### A slice of what is written out -/
theorem foldl_set (off : Nat) : ∀ (l : List Value) (k : Nat) (cells : Array Value) (pre mid post : List Value), cells.toList = pre ++ mid ++ post → pre.length = off + k → mid.length = l.length →
    (List.foldl (fun (cs : Array Value) (p : Value × Nat) => cs.setIfInBounds (off + p.2) p.1) cells (l.zipIdx k)).toList = pre ++ l ++ post := by
  intro l
  induction l with
  | nil =>
    intro k cells pre mid post h1 h2 h3
    have : mid = [] := List.eq_nil_of_length_eq_zero h3
    subst this; simpa using h1
  | cons v l ih =>
    intro k cells pre mid post h1 h2 h3
    cases mid with
    | nil => simp at h3
    | cons m mid =>
      rw [List.zipIdx_cons, List.foldl_cons, ih (k + 1) _ (pre ++ [v]) mid post ?_ (by simp; omega) (by simpa using h3)]
      · simp
      · rw [Array.toList_setIfInBounds, h1, ← h2]
        simp
/-- What 'fill' makes of parts that stand one behind the other, each of one size. -/
theorem fill_all (size : Nat) : ∀ (vs : List Value) (k : Nat) (cells : Array Value) (pre mid post : List Value), cells.toList = pre ++ mid ++ post → pre.length = k * size → mid.length = vs.length * size → (∀ v ∈ vs, v.cells.size = size) →
    ∃ out, Instr.fill (fun i => some (i * size, size)) cells ((vs.zipIdx k).map fun p => (p.2, p.1)) = some out ∧ out.toList = pre ++ vs.flatMap (fun v => v.cells.toList) ++ post := by
  intro vs
  induction vs with
  | nil =>
    intro k cells pre mid post h1 h2 h3 _
    have : mid = [] := List.eq_nil_of_length_eq_zero (by simpa using h3)
    subst this
    exact ⟨cells, rfl, by simpa using h1⟩
  | cons v vs ih =>
    intro k cells pre mid post h1 h2 h3 h4
    have hv := h4 v List.mem_cons_self
    have hlen : cells.size = pre.length + mid.length + post.length := by rw [← Array.length_toList, h1]; simp; omega
    have h3' : mid.length = size + vs.length * size := by rw [h3, List.length_cons, Nat.add_mul]; omega
    simp only [List.zipIdx_cons, List.map_cons, Instr.fill]
    rw [if_neg (by rw [hv]; simp; omega)]
    have hmid : cells.toList = pre ++ mid.take size ++ (mid.drop size ++ post) := by
      rw [h1, List.append_assoc pre (mid.take size), ← List.append_assoc (mid.take size), List.take_append_drop, List.append_assoc]
    have hset := foldl_set (k * size) v.cells.toList 0 cells pre (mid.take size) (mid.drop size ++ post) hmid (by omega) (by simp; omega)
    have hf : (v.cells.zipIdx.foldl (fun cs (c, j) => cs.setIfInBounds (k * size + j) c) cells).toList = pre ++ v.cells.toList ++ (mid.drop size ++ post) := by
      rw [← hset, ← Array.foldl_toList, Array.toList_zipIdx]
    obtain ⟨out, o1, o2⟩ := ih (k + 1) _ (pre ++ v.cells.toList) (mid.drop size) post (by rw [hf]; simp) (by simp [hv]; rw [h2, Nat.add_mul]; omega) (by simp; omega) (fun u hu => h4 u (List.mem_cons_of_mem _ hu))
    exact ⟨out, o1, by rw [o2]; simp⟩

def slT (P : Program) (t e : TypeId) (size bytes : Nat) : Bool := (match P.underlying t with
  | some (.slice e') => e' == e
  | _ => false) && (match P.info? e with
  | some i => i.size == size && i.bytes == bytes && (match i.zero with
    | some z => z.cells.size == size
    | none => false)
  | none => false) && decide (0 < size)
theorem slT_spec {t e : TypeId} {size bytes : Nat} (h : slT P t e size bytes = true) : ∃ i z, P.underlying t = some (.slice e) ∧ P.info? e = some i ∧ i.zero = some z ∧ i.size = size ∧ i.bytes = bytes ∧ z.cells.size = size ∧ 0 < size := by
  unfold slT at h
  simp only [Bool.and_eq_true, decide_eq_true_eq] at h
  obtain ⟨⟨h1, h2⟩, h3⟩ := h
  cases hu : P.underlying t with
  | none => rw [hu] at h1; cases h1
  | some d =>
    rw [hu] at h1
    cases d <;> simp only [Bool.false_eq_true] at h1
    rename_i e'
    have he : e' = e := by simpa using h1
    subst he
    cases hi : P.info? e' with
    | none => rw [hi] at h2; cases h2
    | some i =>
      rw [hi] at h2
      simp only [Bool.and_eq_true, beq_iff_eq] at h2
      cases hz : i.zero with
      | none => rw [hz] at h2; simp at h2
      | some z => rw [hz] at h2; exact ⟨i, z, rfl, rfl, hz, h2.1.1, h2.1.2, by simpa using h2.2, h3⟩

theorem idx_parts (xs : List Operand) (k : Nat) (e : Operand → Value) : ((xs.zipIdx k).map fun p => (p.2, p.1)).map (fun (p : Nat × Operand) => (p.1, e p.2)) = ((xs.map e).zipIdx k).map fun p => (p.2, p.1) := by
  induction xs generalizing k with
  | nil => rfl
  | cons x xs ih => simp only [List.zipIdx_cons, List.map_cons, ih]

/-- A slice whose elements are all written out. -/
theorem eff_lit {t e : TypeId} {size bytes : Nat} (hT : slT P t e size bytes = true) (xs : List Operand) {n : Nat} {parts : Array (Nat × Operand)} (hp : parts.toList = (xs.zipIdx 0).map fun p => (p.2, p.1)) (hn : xs.length = n) (hsm : n * size ≤ 16777216)
    {vs : List Value} (hv : evs τ ρ xs = some vs) (hc : ∀ v ∈ vs, v.cells.size = size)
    (H : K (.slice (some ⟨h.size, 0, none⟩) n n) (h.push (.cells (vs.flatMap (fun v => v.cells.toList)).toArray e))) : eff P (.buildSlice t n parts) ty τ ρ h K := by
  obtain ⟨i, z, t1, t2, t3, t4, t5, t6, t7⟩ := slT_spec hT
  obtain ⟨k1, k2⟩ := evs_some xs vs hv
  have hvl : vs.length = n := by rw [← k2]; simpa using hn
  refine ⟨?_, ?_⟩
  · intro x hx
    simp only [Op.operands, hp, List.map_map] at hx
    refine k1 x ?_
    have : ∀ (xs : List Operand) (k : Nat), List.map ((fun x : Nat × Operand => x.2) ∘ fun p : Operand × Nat => (p.2, p.1)) (xs.zipIdx k) = xs := by
      intro xs
      induction xs with
      | nil => intro k; rfl
      | cons y ys ih => intro k; simp only [List.zipIdx_cons, List.map_cons, ih]; rfl
    rw [this] at hx
    simpa using hx
  · simp only [execOp, Sop.oper]
    refine sr_v fun w hw => ?_
    subst hw
    refine ⟨.slice (some ⟨w.heap.size, 0, none⟩) n n, { w with heap := w.heap.push (.cells (vs.flatMap (fun v => v.cells.toList)).toArray e) }, ?_, ⟨rfl, rfl, rfl⟩, H⟩
    have hparts : (parts.map fun (i, x) => (i, evd τ ρ x)).toList = (vs.zipIdx 0).map fun p => (p.2, p.1) := by
      rw [Array.toList_map, hp, ← k2]
      exact idx_parts xs 0 (evd τ ρ)
    have hzv : ∀ w, (zeroValue e).run P w = .ok z w := by
      intro w
      refine rd_run _ w z ?_
      unfold zeroValue; rw [rd_bind', rd_typeInfo t2]
      show rd P (match i.zero with | some v => pure v | none => _) w.heap = _
      rw [t3]; rfl
    have hsz : ∀ w, (sizeOf e).run P w = .ok size w := fun w => rd_run _ w size (by rw [rd_sizeOf t2, t4])
    have hu : ∀ w, (underlying t).run P w = .ok (.slice e) w := fun w => rd_run _ w _ (rd_underlying t1)
    have hfill : ∀ cs : Array Value, cs.size = n * size → Instr.fill (fun i => some (i * size, size)) cs (parts.map fun (i, x) => (i, evd τ ρ x)).toList = some (vs.flatMap (fun v => v.cells.toList)).toArray := by
      intro cs hcs
      obtain ⟨out, o1, o2⟩ := fill_all size vs 0 cs [] cs.toList [] (by simp) (by simp) (by rw [Array.length_toList, hcs, hvl]) hc
      rw [hparts, o1]
      congr 1
      apply Array.toList_inj.1
      rw [o2]; simp
    simp only [Instr.buildSlice, Sem.run_bind, hu, hsz, Result.andThen, if_neg (show ¬ n * size > 2 ^ 24 by omega)]
    by_cases hz : n * size = 0
    · rw [if_pos hz]
      simp only [Sem.run_bind, Sem.run_pure, Result.andThen]
      rw [hfill _ (by simp)]
      rfl
    · rw [if_neg hz]
      simp only [Sem.run_bind, Sem.run_pure, Result.andThen, hzv]
      rw [hfill _ (by simp)]
      rfl

def all1 (size : Nat) : List Value → Prop
  | [] => True
  | v :: r => v.cells.size = size ∧ all1 size r
theorem all1_nil {size : Nat} : all1 size [] = True := _root_.id rfl
theorem all1_cons {size : Nat} {v : Value} {r : List Value} : all1 size (v :: r) = (v.cells.size = size ∧ all1 size r) := _root_.id rfl
theorem all1_mem {size : Nat} : ∀ {l : List Value}, all1 size l → ∀ v ∈ l, v.cells.size = size := by
  intro l
  induction l with
  | nil => intro _ v hv; cases hv
  | cons x r ih =>
    intro h v hv
    rcases List.mem_cons.1 hv with hv | hv
    · exact hv ▸ h.1
    · exact ih h.2 v hv
def flatC : List Value → List Value
  | [] => []
  | v :: r => v.cells.toList ++ flatC r
theorem flatC_nil : flatC [] = [] := _root_.id rfl
theorem flatC_cons {v : Value} {r : List Value} : flatC (v :: r) = v.cells.toList ++ flatC r := _root_.id rfl
theorem flatC_eq : ∀ l : List Value, flatC l = l.flatMap fun v => v.cells.toList := by
  intro l; induction l with
  | nil => rfl
  | cons x r ih => simp [flatC, ih]
def klit (K : Value → Heap → Prop) (h : Heap) (n size : Nat) (e : TypeId) : List Value → Prop := fun vs => all1 size vs ∧ K (.slice (some ⟨h.size, 0, none⟩) n n) (h.push (.cells (flatC vs).toArray e))
theorem klit_ap {n size : Nat} {e : TypeId} {vs : List Value} : klit K h n size e vs = (all1 size vs ∧ K (.slice (some ⟨h.size, 0, none⟩) n n) (h.push (.cells (flatC vs).toArray e))) := _root_.id rfl
theorem eff_lits {t e : TypeId} {size bytes : Nat} (hT : slT P t e size bytes = true) {n : Nat} {l : List (Nat × Operand)} (hp : l = ((l.map (·.2)).zipIdx 0).map fun p => (p.2, p.1)) (hn : l.length = n) (hsm : n * size ≤ 16777216)
    (H : OptK (evs τ ρ (l.map (·.2))) (klit K h n size e)) : eff P (.buildSlice t n l.toArray) ty τ ρ h K := by
  cases hv : evs τ ρ (l.map (·.2)) with
  | none => rw [hv] at H; exact H.elim
  | some vs =>
    rw [hv] at H
    exact eff_lit hT (l.map (·.2)) (parts := l.toArray) (by simpa using hp) (by simpa using hn) hsm hv (all1_mem H.1) (by rw [← flatC_eq]; exact H.2)

/-! #### A slice that is the call's own, and append -/
def Own (h : Heap) (base : Nat) (e : TypeId) (size : Nat) (v : Value) (n : Nat) (xs : List Value) : Prop :=
  xs.length = n * size ∧
  ((v = .slice none 0 0 ∧ n = 0) ∨
   ∃ g cap cur fz, v = .slice (some ⟨g, 0, none⟩) n cap ∧ base ≤ g ∧ h[g]? = some (.cells cur e fz) ∧ (∀ j, j < cap * size → ¬ (fz.1 ≤ j ∧ j < fz.2)) ∧ n ≤ cap ∧ cap ≤ maxLen ∧ cur.size = cap * size ∧ cur.toList.take (n * size) = xs)
theorem Own.nil {h : Heap} {base : Nat} {e : TypeId} {size : Nat} : Own h base e size (.slice none 0 0) 0 [] := ⟨by simp, .inl ⟨rfl, rfl⟩⟩
theorem Own.fr {S : Nat → Prop} {h h' : Heap} {base : Nat} {e : TypeId} {size : Nat} {v : Value} {n : Nat} {xs : List Value} (H : Own h base e size v n xs) (hf : Fr S h h') (hS : ∀ k, v.ownBlock = some k → ¬ S k) : Own h' base e size v n xs := by
  refine ⟨H.1, ?_⟩
  rcases H.2 with h1 | ⟨g, cap, cur, fz, rfl, h2, h3, h4⟩
  · exact .inl h1
  · refine .inr ⟨g, cap, cur, fz, rfl, h2, ?_, h4⟩
    rw [hf.same g (Array.getElem?_eq_some_iff.1 h3).1 (hS g rfl)]; exact h3
theorem Own.push {h : Heap} {base : Nat} {e : TypeId} {size : Nat} {v : Value} {n : Nat} {xs : List Value} (H : Own h base e size v n xs) (o : Obj) : Own (h.push o) base e size v n xs :=
  H.fr (Fr.push (fun _ => False) h o) fun _ _ => _root_.id
theorem Own.ext {h h' : Heap} {base : Nat} {e : TypeId} {size : Nat} {v : Value} {n : Nat} {xs : List Value} (H : Own h base e size v n xs) (hf : Ext h h') : Own h' base e size v n xs := H.fr hf fun _ _ => _root_.id
theorem Own.lt {h : Heap} {base : Nat} {e : TypeId} {size : Nat} {v : Value} {n : Nat} {xs : List Value} (H : Own h base e size v n xs) : ∀ k, v.ownBlock = some k → base ≤ k ∧ k < h.size := by
  intro k hk
  rcases H.2 with ⟨rfl, _⟩ | ⟨g, cap, cur, fz, rfl, h2, h3, h4⟩
  · simp [Value.ownBlock] at hk
  · simp [Value.ownBlock] at hk; subst hk; exact ⟨h2, (Array.getElem?_eq_some_iff.1 h3).1⟩

theorem Own.mono {h : Heap} {base base' : Nat} {e : TypeId} {size : Nat} {v : Value} {n : Nat} {xs : List Value} (H : Own h base e size v n xs) (hb : base' ≤ base) : Own h base' e size v n xs := by
  refine ⟨H.1, ?_⟩
  rcases H.2 with h1 | ⟨g, cap, cur, fz, rfl, h2, h3⟩
  · exact .inl h1
  · exact .inr ⟨g, cap, cur, fz, rfl, by omega, h3⟩
/-- Behind an append to a slice that is younger than all that is to stay. -/
theorem Ext.app {b hc h' : Heap} {v : Value} (H : Ext b hc) (hf : Fr (fun k => v.ownBlock = some k) hc h') (hlt : ∀ k, v.ownBlock = some k → b.size ≤ k) : Ext b h' :=
  Fr.trans H hf (fun _ _ h => h) fun k hk h => absurd (hlt k h) (by omega)
theorem grown_fr {w w' : World} {row : Option Nat} (h : w.grownBy w' row) : Fr (fun k => row = some k) w.heap w'.heap := ⟨h.size, fun k hk hn => h.block k hk fun e => hn e.symm⟩

theorem setCells_row (g : Nat) (e : TypeId) (fz : Nat × Nat) : ∀ (vs : List Value) (o : Nat) (cur : Array Value) (w : World), w.heap[g]? = some (.cells cur e fz) → o + vs.length ≤ cur.size →
    w.setCells g o vs = w.setRow g (cur.toList.take o ++ vs ++ cur.toList.drop (o + vs.length)).toArray
  | [], o, cur, w, hg, _ => by
    simp only [World.setCells, List.append_nil, List.length_nil, Nat.add_zero, List.take_append_drop, Array.toArray_toList]
    rw [setRow_self w g cur e fz hg]
  | v :: rest, o, cur, w, hg, hl => by
    have ih := setCells_row g e fz rest (o + 1) (cur.setIfInBounds o v) (w.setRow g (cur.setIfInBounds o v)) (setRow_heap w g cur _ e _ hg) (by simp at hl ⊢; omega)
    rw [World.setCells, setCell_eq_setRow w g o cur e fz v hg, ih, setRow_setRow]
    congr 2
    have e := list_seg_step cur.toList o v rest (by simp at hl ⊢; omega)
    simpa [Array.toList_setIfInBounds, Nat.add_assoc] using e

theorem run_append_src {P : Program} (w : World) (base : Nat) (t tx ty e : TypeId) (i : TypeInfo) (z : Value) (size bytes : Nat) (ht : P.underlying t = some (.slice e)) (hi : P.info? e = some i) (hz : i.zero = some z)
    (hsize : i.size = size) (hby : i.bytes = bytes) (hzs : z.cells.size = size) (v : Value) (n m : Nat) (xs news : List Value) (x : Value) (hown : Own w.heap base e size v n xs) (hs : Src P size tx x m news w)
    (h63 : n + m ≤ maxLen) (hbytes : (n + m) * bytes ≤ 140737488355328) (hbase : base ≤ w.heap.size) :
    ∃ v' w', (Builtin.append_ #[t, tx] ty #[v, x]).run P w = .ok v' w' ∧ Own w'.heap base e size v' (n + m) (xs ++ news) ∧ w.grownBy w' v.ownBlock ∧ (v' = .slice none 0 0 ↔ v = .slice none 0 0 ∧ m = 0) ∧ ∀ k, v'.ownBlock = some k → v.ownBlock = some k ∨ w.heap.size ≤ k := by
  subst hsize hby
  have hlen : (xs ++ news).length = (n + m) * i.size := by rw [List.length_append, hown.1, hs.newsLen, Nat.add_mul]
  have hsmall : ((n + m : Nat) : Int) ≤ 9223372036854775807 := by simp only [maxLen] at h63; omega
  have grow : ∀ (bo : Option Addr) (cap : Nat), v = .slice bo n cap → cap < n + m → (Builtin.firstCells i.size n (.slice bo n cap)).run P w.drew = .ok xs.toArray w.drew →
      ∃ v' w', (Builtin.append_ #[t, tx] ty #[v, x]).run P w = .ok v' w' ∧ Own w'.heap base e i.size v' (n + m) (xs ++ news) ∧ w.grownBy w' v.ownBlock ∧ (v' = .slice none 0 0 ↔ v = .slice none 0 0 ∧ m = 0) ∧ ∀ k, v'.ownBlock = some k → v.ownBlock = some k ∨ w.heap.size ≤ k := by
    intro bo cap hv hcap hold
    subst hv
    have hr := run_append_grow_src (P := P) w t tx ty e i z ht hi hz bo n cap xs hold x m news hs hcap hsmall (growslice_fits hcap hbytes)
    have hge := grownCap_ge w (n + m) cap e
    have hcm2 : grownCap w (n + m) cap e ≤ maxLen := grownCap_le_maxLen w (n + m) cap e h63
    refine ⟨_, _, hr, ⟨hlen, .inr ⟨w.heap.size, _, _, (0, 0), rfl, hbase, heap_alloc_new w.drew _, by intro j _; simp, hge, hcm2, ?_, ?_⟩⟩, ⟨rfl, rfl, rfl, by simp, fun k hk _ => by show (w.heap.push _)[k]? = _; rw [Array.getElem?_push, if_neg (by omega)]⟩, ?_, fun k hk => .inr (by simp only [Value.ownBlock, Option.some.injEq] at hk; omega)⟩
    · rw [Array.size_append, size_zeroCells, hzs, List.size_toArray, hlen, ← Nat.add_mul]
      congr 1; omega
    · simp only [Array.toList_append, List.append_assoc]
      rw [← List.append_assoc, ← hlen]
      exact List.take_left
    · constructor
      · intro h; cases h
      · rintro ⟨h1, h2⟩; cases h1; subst h2; simp at hcap
  rcases hown.2 with ⟨rfl, rfl⟩ | ⟨g, cap, cur, fz, rfl, hbg, hg, hfz, hnc, hcm, hcs, htake⟩
  · rcases Nat.eq_zero_or_pos m with rfl | hm
    · refine ⟨.slice none 0 0, w, ?_, ⟨hlen, .inl ⟨rfl, rfl⟩⟩, ⟨rfl, rfl, rfl, Nat.le_refl _, fun _ _ _ => rfl⟩, by simp, fun k hk => .inl hk⟩
      rcases hs.kind with ⟨e', hk⟩ | hk <;> simp [Builtin.append_, run_underlying ht, run_underlying hk, sizeOf, typeInfo, hi, hs.len, hs.cells]
    · have hxs : xs = [] := List.eq_nil_of_length_eq_zero (by simpa using hown.1)
      subst hxs
      exact grow none 0 rfl (by omega) (run_firstCells_none w.drew i.size 0 0 0)
  · by_cases hroom : n + m ≤ cap
    · have hnl := hs.newsLen
      have hmul : (n + m) * i.size ≤ cap * i.size := Nat.mul_le_mul_right _ hroom
      rw [Nat.add_mul] at hmul
      have hr := run_append_room_src (P := P) w t tx ty e i ht hi g 0 n cap x m news hs hroom
        (fun j hj => by simp [World.cell?, hg]; omega)
        (fun j hj => by
          have := hfz (0 + n * i.size + j) (by omega)
          simp only [World.frozen?, hg, Bool.and_eq_false_iff, decide_eq_false_iff_not]
          omega)
      rw [setCells_row g e fz news _ cur w hg (by omega)] at hr
      refine ⟨_, _, hr, ⟨hlen, .inr ⟨g, cap, _, fz, rfl, hbg, setRow_heap w g cur _ e _ hg, hfz, hroom, hcm, ?_, ?_⟩⟩, ⟨rfl, rfl, rfl, by simp, fun k _ hk => setRow_other w g k _ (fun e => hk (by simp [Value.ownBlock, e]))⟩, by simp, fun k hk => .inl hk⟩
      · simp only [List.size_toArray, List.length_append, List.length_take, List.length_drop, Array.length_toList]
        omega
      · have ht' : cur.toList.take (0 + n * i.size) = xs := by simpa using htake
        rw [ht', ← hlen]
        exact List.take_left
    · exact grow _ cap rfl (by omega) (run_firstCells_some w.drew i.size n ⟨g, 0, none⟩ n cap xs hown.1 (by
        intro j u hu
        have hadd : (⟨g, 0, none⟩ : Addr).add j = ⟨g, j, none⟩ := by unfold Addr.add; split <;> simp_all
        rw [hadd]
        show cellAt w.heap ⟨g, j, none⟩ = _
        rw [cellAt_of hg]
        rw [← htake, List.getElem?_take] at hu
        split at hu
        · simpa using hu
        · cases hu))

theorem eff_append_srcF {t tx e : TypeId} {size bytes : Nat} (hT : slT P t e size bytes = true) {x y : Operand} {base : Nat} {v u : Value} {n m : Nat} {xs news : List Value}
    (hx : evo τ ρ x = some v) (hy : evo τ ρ y = some u) (hown : Own h base e size v n xs) (hsrc : ∀ w : World, w.heap = h → Src P size tx u m news w)
    (h63 : n + m ≤ 9223372036854775807) (hbytes : (n + m) * bytes ≤ 140737488355328) (hbase : base ≤ h.size)
    (H : ∀ v' h', Own h' base e size v' (n + m) (xs ++ news) → Fr (fun k => v.ownBlock = some k) h h' → (v' = .slice none 0 0 ↔ v = .slice none 0 0 ∧ m = 0) → (∀ k, v'.ownBlock = some k → v.ownBlock = some k ∨ h.size ≤ k) → K v' h') :
    eff P (.call { callee := .builtin .append, args := #[x, y], argTypes := #[t, tx] }) ty τ ρ h K := by
  obtain ⟨i, z, t1, t2, t3, t4, t5, t6, t7⟩ := slT_spec hT
  refine eff_2 (x := x) (y := y) (by rfl) hx hy fun f hf1 hf2 => ?_
  intro w hw
  have hs := hsrc w hw
  subst hw
  obtain ⟨v', w', r1, r2, r3, r4, r5⟩ := run_append_src (P := P) w base t tx ty e i z size bytes t1 t2 t3 t4 t5 t6 v n m xs news u hown hs (by simpa [maxLen] using h63) hbytes hbase
  refine ⟨.value v', w', ?_, ⟨r3.os, r3.tape, r3.output⟩, H v' w'.heap r2 (grown_fr r3) r4 r5⟩
  simp only [execOp, Sop.oper, resolve, invoke, builtin, Sem.run_bind, Sem.run_pure, Result.andThen, List.map_toArray, List.map_cons, List.map_nil, hf1, hf2, r1]

theorem eff_append_src {t tx e : TypeId} {size bytes : Nat} (hT : slT P t e size bytes = true) {x y : Operand} {base : Nat} {v u : Value} {n m : Nat} {xs news : List Value}
    (hx : evo τ ρ x = some v) (hy : evo τ ρ y = some u) (hown : Own h base e size v n xs) (hsrc : ∀ w : World, w.heap = h → Src P size tx u m news w)
    (h63 : n + m ≤ 9223372036854775807) (hbytes : (n + m) * bytes ≤ 140737488355328) (hbase : base ≤ h.size)
    (H : ∀ v' h', Own h' base e size v' (n + m) (xs ++ news) → Fr (fun k => v.ownBlock = some k) h h' → (v' = .slice none 0 0 ↔ v = .slice none 0 0 ∧ m = 0) → K v' h') :
    eff P (.call { callee := .builtin .append, args := #[x, y], argTypes := #[t, tx] }) ty τ ρ h K :=
  eff_append_srcF hT hx hy hown hsrc h63 hbytes hbase fun v' h' a b c _ => H v' h' a b c

theorem eff_append_own {t e : TypeId} {size bytes : Nat} (hT : slT P t e size bytes = true) {x y : Operand} {base : Nat} {v : Value} {n m c : Nat} {xs news : List Value} {b o : Nat}
    (hx : evo τ ρ x = some v) (hy : evo τ ρ y = some (.slice (some ⟨b, o, none⟩) m c)) (hown : Own h base e size v n xs) (hl : news.length = m * size) (hnews : Rd h b o news) (h1 : ∀ u ∈ news, oneCell u = true)
    (h63 : n + m ≤ 9223372036854775807) (hbytes : (n + m) * bytes ≤ 140737488355328) (hbase : base ≤ h.size)
    (H : ∀ v' h', Own h' base e size v' (n + m) (xs ++ news) → Fr (fun k => v.ownBlock = some k) h h' → (v' = .slice none 0 0 ↔ v = .slice none 0 0 ∧ m = 0) → K v' h') :
    eff P (.call { callee := .builtin .append, args := #[x, y], argTypes := #[t, t] }) ty τ ρ h K := by
  obtain ⟨i, z, t1, t2, t3, t4, t5, t6, t7⟩ := slT_spec hT
  refine eff_append_src hT hx hy hown (fun w hw => ?_) h63 hbytes hbase H
  subst hw
  refine Src.ofSlice w t1 ⟨b, o, none⟩ m c news hl (fun j u hu => ?_) fun u hu => by have := h1 u hu; cases u <;> first | rfl | (simp [oneCell] at this)
  have ha : (⟨b, o, none⟩ : Addr).add j = ⟨b, o + j, none⟩ := by unfold Addr.add; split <;> simp_all
  rw [ha]; exact hnews j u hu
theorem eff_append_ownF {t e : TypeId} {size bytes : Nat} (hT : slT P t e size bytes = true) {x y : Operand} {base : Nat} {v : Value} {n m c : Nat} {xs news : List Value} {b o : Nat}
    (hx : evo τ ρ x = some v) (hy : evo τ ρ y = some (.slice (some ⟨b, o, none⟩) m c)) (hown : Own h base e size v n xs) (hl : news.length = m * size) (hnews : Rd h b o news) (h1 : ∀ u ∈ news, oneCell u = true)
    (h63 : n + m ≤ 9223372036854775807) (hbytes : (n + m) * bytes ≤ 140737488355328) (hbase : base ≤ h.size)
    (H : ∀ v' h', Own h' base e size v' (n + m) (xs ++ news) → Fr (fun k => v.ownBlock = some k) h h' → (v' = .slice none 0 0 ↔ v = .slice none 0 0 ∧ m = 0) → (∀ k, v'.ownBlock = some k → v.ownBlock = some k ∨ h.size ≤ k) → K v' h') :
    eff P (.call { callee := .builtin .append, args := #[x, y], argTypes := #[t, t] }) ty τ ρ h K := by
  obtain ⟨i, z, t1, t2, t3, t4, t5, t6, t7⟩ := slT_spec hT
  refine eff_append_srcF hT hx hy hown (fun w hw => ?_) h63 hbytes hbase H
  subst hw
  refine Src.ofSlice w t1 ⟨b, o, none⟩ m c news hl (fun j u hu => ?_) fun u hu => by have := h1 u hu; cases u <;> first | rfl | (simp [oneCell] at this)
  have ha : (⟨b, o, none⟩ : Addr).add j = ⟨b, o + j, none⟩ := by unfold Addr.add; split <;> simp_all
  rw [ha]; exact hnews j u hu

/-! #### Bytes as a text -/
def bytesV (l : List UInt8) : List Value := l.map fun c => .int .u8 (c.toNat : Int)
theorem eff_append_str {t tx e : TypeId} {bytes : Nat} (hT : slT P t e 1 bytes = true) (hX : P.underlying tx = some .string) {x y : Operand} {base : Nat} {v : Value} {n : Nat} {xs : List Value} {l : List UInt8}
    (hx : evo τ ρ x = some v) (hy : evo τ ρ y = some (str l)) (hown : Own h base e 1 v n xs)
    (h63 : n + l.length ≤ 9223372036854775807) (hbytes : (n + l.length) * bytes ≤ 140737488355328) (hbase : base ≤ h.size)
    (H : ∀ v' h', Own h' base e 1 v' (n + l.length) (xs ++ bytesV l) → Fr (fun k => v.ownBlock = some k) h h' → K v' h') :
    eff P (.call { callee := .builtin .append, args := #[x, y], argTypes := #[t, tx] }) ty τ ρ h K :=
  eff_append_src hT hx hy hown (fun w _ => Src.ofString w hX ⟨l.toArray⟩) h63 hbytes hbase fun v' h' a b _ => H v' h' a b
/-- '[]byte(s)'. -/
theorem eff_bytes_of {s d e : TypeId} (hs : P.underlying s = some .string) (hd : P.underlying d = some (.slice e)) (he : P.underlying e = some (.int .u8)) {x : Operand} {l : List UInt8} {base : Nat} (hx : evo τ ρ x = some (str l)) (hb : base ≤ h.size) (hl : l.length ≤ 9223372036854775807)
    (H : ∀ v h', Own h' base e 1 v l.length (bytesV l) → Ext h h' → K v h') : eff P (.convert s d x) ty τ ρ h K := by
  refine eff_1 (by rfl) hx fun f hf => ?_
  simp only [execOp, Sop.oper, hf]
  refine sr_v fun w hw => ?_
  subst hw
  have hr := run_bytes_of_string (P := P) w s d e ⟨l.toArray⟩ hs hd he
  have hz : (⟨l.toArray⟩ : ByteArray).size = l.length := by show l.toArray.size = _; simp
  rw [hz] at hr
  refine ⟨_, _, hr, ⟨rfl, rfl, rfl⟩, H _ _ ⟨by simp [bytesV], .inr ⟨w.heap.size, _, _, _, rfl, hb, heap_alloc_new w.drew _, ?_, grownCap_ge _ _ _ _, grownCap_le_maxLen _ _ _ _ (by simpa [maxLen] using hl), ?_, ?_⟩⟩ (Ext.push _ _)⟩
  · intro j hj hc
    have hge := grownCap_ge w l.length 0 e
    have : (bytesRow ⟨l.toArray⟩ (grownCap w l.length 0 e)).size = grownCap w l.length 0 e := by simp [bytesRow, hz]; omega
    rw [this] at hc
    have := hc.1
    simp only at this
    omega
  · have hge := grownCap_ge w l.length 0 e
    simp [bytesRow, hz]; omega
  · simp only [bytesRow, Array.toList_append, Array.toList_map, Nat.mul_one]
    exact List.take_left' (by simp)

theorem rd_forIn_bytes (f : Value → ByteArray → Sem (ForInStep ByteArray)) (hf : ∀ (c : UInt8) (r : ByteArray), rd P (f (.int .u8 (c.toNat : Int)) r) h = some (.yield (r.push c))) :
    ∀ (l : List UInt8) (s : ByteArray), rd P (forIn (bytesV l) s f) h = some ⟨(s.data.toList ++ l).toArray⟩ := by
  intro l
  induction l with
  | nil => intro s; simp [bytesV, rd_pure]
  | cons c l ih =>
    intro s
    have := ih (s.push c)
    simp only [bytesV, List.map_cons, List.forIn_cons, rd_bind', hf, Option.bind_some] at this ⊢
    rw [this]
    simp [ByteArray.push]
theorem cv_bytes {s d e : TypeId} {b o n c : Nat} {l : List UInt8} (hs : P.underlying s = some (.slice e)) (he : P.underlying e = some (.int .u8)) (hd : P.underlying d = some .string) (H : Rd h b o (bytesV l)) (hl : l.length = n) :
    cvE P s d (.slice (some ⟨b, o, none⟩) n c) h = some (str l) := by
  unfold cvE convert
  rw [rd_bind', rd_underlying hs, Option.bind_some, rd_bind', rd_underlying hd, Option.bind_some]
  simp only [rd_bind', rd_underlying he, Option.bind_some, Conv.bytesToString]
  rw [rd_loadCells H (by simpa [bytesV] using hl), Option.bind_some, List.forIn_toArray]
  rw [rd_forIn_bytes _ (by intro c r; simp [rd_pure])]
  simp only [Option.bind_some, rd_pure, str]
  rfl
theorem cv_bytes_nil {s d e : TypeId} {c n : Nat} (hs : P.underlying s = some (.slice e)) (he : P.underlying e = some (.int .u8)) (hd : P.underlying d = some .string) :
    cvE P s d (.slice none n c) h = some (str []) := by
  unfold cvE convert
  rw [rd_bind', rd_underlying hs, Option.bind_some, rd_bind', rd_underlying hd, Option.bind_some]
  simp only [rd_bind', rd_underlying he, Option.bind_some, Conv.bytesToString, rd_pure]
  rfl

theorem rd_forIn_ints (f : Value → ByteArray → Sem (ForInStep ByteArray)) (hf : ∀ (n : Int) (r : ByteArray), rd P (f (.int .u8 n) r) h = some (.yield (r.push (UInt8.ofNat n.toNat)))) :
    ∀ (l : List Int) (s : ByteArray), rd P (forIn (l.map (Value.int .u8)) s f) h = some ⟨(s.data.toList ++ l.map fun n => UInt8.ofNat n.toNat).toArray⟩ := by
  intro l
  induction l with
  | nil => intro s; simp [rd_pure]
  | cons c l ih =>
    intro s
    have := ih (s.push (UInt8.ofNat c.toNat))
    simp only [List.map_cons, List.forIn_cons, rd_bind', hf, Option.bind_some] at this ⊢
    rw [this]
    simp [ByteArray.push]
theorem cv_ints {s d e : TypeId} {b o n c : Nat} {l : List Int} (hs : P.underlying s = some (.slice e)) (he : P.underlying e = some (.int .u8)) (hd : P.underlying d = some .string) (H : Rd h b o (l.map (Value.int .u8))) (hl : l.length = n) :
    cvE P s d (.slice (some ⟨b, o, none⟩) n c) h = some (str (l.map fun n => UInt8.ofNat n.toNat)) := by
  unfold cvE convert
  rw [rd_bind', rd_underlying hs, Option.bind_some, rd_bind', rd_underlying hd, Option.bind_some]
  simp only [rd_bind', rd_underlying he, Option.bind_some, Conv.bytesToString]
  rw [rd_loadCells H (by simpa using hl), Option.bind_some, List.forIn_toArray]
  rw [rd_forIn_ints _ (by intro c r; simp [rd_pure])]
  simp only [Option.bind_some, rd_pure, str]
  rfl
theorem Rd_new {vs : List Value} {e : TypeId} {fz : Nat × Nat} : Rd (h.push (.cells vs.toArray e fz)) h.size 0 vs := by
  intro j v hv
  rw [Nat.zero_add, cellAt_push_new]; simpa using hv
theorem cv_lit1 {s d e : TypeId} {c : Nat} {a : Int} {e' : TypeId} {fz : Nat × Nat} (hs : P.underlying s = some (.slice e)) (he : P.underlying e = some (.int .u8)) (hd : P.underlying d = some .string) :
    cvE P s d (.slice (some ⟨h.size, 0, none⟩) 1 c) (h.push (.cells #[.int .u8 a] e' fz)) = some (str [UInt8.ofNat a.toNat]) :=
  cv_ints (l := [a]) hs he hd (Rd_new (vs := [.int .u8 a])) rfl
theorem cv_lit2 {s d e : TypeId} {c : Nat} {a b : Int} {e' : TypeId} {fz : Nat × Nat} (hs : P.underlying s = some (.slice e)) (he : P.underlying e = some (.int .u8)) (hd : P.underlying d = some .string) :
    cvE P s d (.slice (some ⟨h.size, 0, none⟩) 2 c) (h.push (.cells #[.int .u8 a, .int .u8 b] e' fz)) = some (str [UInt8.ofNat a.toNat, UInt8.ofNat b.toNat]) :=
  cv_ints (l := [a, b]) hs he hd (Rd_new (vs := [.int .u8 a, .int .u8 b])) rfl
theorem cv_lit3 {s d e : TypeId} {c' : Nat} {a b c : Int} {e' : TypeId} {fz : Nat × Nat} (hs : P.underlying s = some (.slice e)) (he : P.underlying e = some (.int .u8)) (hd : P.underlying d = some .string) :
    cvE P s d (.slice (some ⟨h.size, 0, none⟩) 3 c') (h.push (.cells #[.int .u8 a, .int .u8 b, .int .u8 c] e' fz)) = some (str [UInt8.ofNat a.toNat, UInt8.ofNat b.toNat, UInt8.ofNat c.toNat]) :=
  cv_ints (l := [a, b, c]) hs he hd (Rd_new (vs := [.int .u8 a, .int .u8 b, .int .u8 c])) rfl

theorem Own.rd {base : Nat} {e : TypeId} {size : Nat} {v : Value} {n : Nat} {xs : List Value} (H : Own h base e size v n xs) : (v = .slice none 0 0 ∧ n = 0 ∧ xs = []) ∨ ∃ g cap, v = .slice (some ⟨g, 0, none⟩) n cap ∧ base ≤ g ∧ Rd h g 0 xs := by
  obtain ⟨h1, h2⟩ := H
  rcases h2 with ⟨rfl, rfl⟩ | ⟨g, cap, cur, fz, rfl, h3, h4, _, h5, h6, h7, h8⟩
  · exact .inl ⟨rfl, rfl, List.eq_nil_of_length_eq_zero (by simpa using h1)⟩
  · refine .inr ⟨g, cap, rfl, h3, ?_⟩
    intro j v hv
    rw [cellAt_of h4, Nat.zero_add]
    rw [← h8, List.getElem?_take] at hv
    split at hv
    · simpa using hv
    · cases hv
theorem cv_own {s d e : TypeId} {base : Nat} {e' : TypeId} {v : Value} {n : Nat} {l : List UInt8} (hs : P.underlying s = some (.slice e)) (he : P.underlying e = some (.int .u8)) (hd : P.underlying d = some .string) (H : Own h base e' 1 v n (bytesV l)) :
    cvE P s d v h = some (str l) := by
  have hl : l.length = n := by have := H.1; simpa [bytesV] using this
  rcases H.rd with ⟨rfl, _, h3⟩ | ⟨g, cap, rfl, _, h3⟩
  · have : l = [] := by simpa [bytesV] using h3
    subst this
    exact cv_bytes_nil hs he hd
  · exact cv_bytes hs he hd h3 hl

/-! #### A slice that is read (elements of one cell) -/
def Sl (h : Heap) (v : Value) (xs : List Value) : Prop := ∃ a c, v = .slice a xs.length c ∧ (xs = [] ∨ ∃ b o, a = some ⟨b, o, none⟩ ∧ Rd h b o xs)
theorem Own.sl {base : Nat} {e : TypeId} {v : Value} {n : Nat} {xs : List Value} (H : Own h base e 1 v n xs) : Sl h v xs := by
  have hl := H.1
  rcases H.rd with ⟨rfl, _, rfl⟩ | ⟨g, cap, rfl, _, h3⟩
  · exact ⟨none, 0, rfl, .inl rfl⟩
  · exact ⟨some ⟨g, 0, none⟩, cap, by rw [hl]; simp, .inr ⟨g, 0, rfl, h3⟩⟩
theorem Rd.lt {b o : Nat} {xs : List Value} (H : Rd h b o xs) (hne : xs ≠ []) : b < h.size := by
  cases xs with
  | nil => exact absurd rfl hne
  | cons x r => exact cellAt_lt (H 0 x rfl)
theorem Sl.fr {S : Nat → Prop} {h' : Heap} {v : Value} {xs : List Value} (H : Sl h v xs) (hf : Fr S h h') (hS : ∀ k, k < h.size → v.ownBlock = some k → ¬ S k) : Sl h' v xs := by
  obtain ⟨a, c, rfl, h1⟩ := H
  refine ⟨a, c, rfl, ?_⟩
  rcases h1 with h1 | ⟨b, o, rfl, h1⟩
  · exact .inl h1
  · by_cases hne : xs = []
    · exact .inl hne
    · have hb := h1.lt hne
      exact .inr ⟨b, o, rfl, hf.rd h1 hb (hS b hb rfl)⟩
theorem Sl.ext {h' : Heap} {v : Value} {xs : List Value} (H : Sl h v xs) (hf : Ext h h') : Sl h' v xs := H.fr hf fun _ _ _ => _root_.id
/-- The element at an index. -/
theorem Sl.at {v : Value} {xs : List Value} (H : Sl h v xs) {i : Nat} (hi : i < xs.length) : ∃ b o c, v = .slice (some ⟨b, o, none⟩) xs.length c ∧ b < h.size ∧ cellAt h ⟨b, o + i, none⟩ = some (xs.getD i undef) := by
  obtain ⟨a, c, rfl, h1⟩ := H
  rcases h1 with rfl | ⟨b, o, rfl, h1⟩
  · simp at hi
  · refine ⟨b, o, c, rfl, h1.lt (by intro e; subst e; simp at hi), ?_⟩
    refine h1 i _ ?_
    simp [hi]

/-! #### make, stores -/
theorem eff_make {t e : TypeId} {size bytes : Nat} (hT : slT P t e size bytes = true) {x y : Operand} {k k' : IntKind} {n : Int} (hx : evo τ ρ x = some (.int k n)) (hy : evo τ ρ y = some (.int k' n)) (h0 : 0 ≤ n) (hb : (bytes : Int) * n ≤ 281474976710656) (h63 : n ≤ 9223372036854775807)
    (H : ∀ cs : Array Value, ∀ z i, P.info? e = some i → i.zero = some z → cs = madeCells z.cells (n.toNat * size) → K (.slice (some ⟨h.size, 0, none⟩) n.toNat n.toNat) (h.push (.cells cs e))) : eff P (.makeSlice t x y) ty τ ρ h K := by
  obtain ⟨i, z, t1, t2, t3, t4, t5, t6, t7⟩ := slT_spec hT
  refine eff_2 (x := x) (y := y) (by rfl) hx hy fun f hf1 hf2 => ?_
  simp only [execOp, Sop.oper, hf1, hf2]
  refine sr_v fun w hw => ?_
  subst hw
  have hr := run_make (P := P) w t e i z t1 t2 t3 k k' n n h0 (Int.le_refl _) (by rw [t5]; exact hb) h63
  rw [t4] at hr
  exact ⟨_, _, hr, ⟨rfl, rfl, rfl⟩, H _ z i t2 t3 rfl⟩

theorem eff_store1 {t : TypeId} {i : TypeInfo} (hi : P.info? t = some i) (hsz : i.size = 1) {x y : Operand} {b o : Nat} {v u : Value} (hx : evo τ ρ x = some (.pointer (some ⟨b, o, none⟩))) (hy : evo τ ρ y = some v)
    (hv : v.cells = #[v]) (hone : oneCell v = true) (hc : cellAt h ⟨b, o, none⟩ = some u) (hz : frozenAt h ⟨b, o, none⟩ = false) (H : K undef (setAt h ⟨b, o, none⟩ v)) : eff P (.store t x y) ty τ ρ h K := by
  refine eff_2 (x := x) (y := y) (by rfl) hx hy fun f hf1 hf2 => ?_
  simp only [execOp, Sop.oper, hf1, hf2]
  refine sr_u (sr_of_hr ?_)
  show hr P (storeVar t ⟨b, o, none⟩ v) h _
  unfold storeVar
  rw [hr_bind']
  refine hr_of_rd _ _ i.size _ (rd_sizeOf hi) ?_
  rw [hv, hsz]
  exact ⟨hone, by show (cellAt h ⟨b, o, none⟩).isSome = true; rw [hc]; rfl, hz, H⟩

/-- A store of a value of several cells. -/
theorem eff_storeN {t : TypeId} {i : TypeInfo} (hi : P.info? t = some i) {x y : Operand} {b o : Nat} {v : Value} {cur : Array Value} {e : TypeId} {fz : Nat × Nat}
    (hx : evo τ ρ x = some (.pointer (some ⟨b, o, none⟩))) (hy : evo τ ρ y = some v) (hsz : v.cells.size = i.size) (hone : ∀ u ∈ v.cells.toList, oneCell u = true)
    (hb : h[b]? = some (.cells cur e fz)) (hlen : o + i.size ≤ cur.size) (hfz : ∀ j, o ≤ j → j < o + i.size → ¬ (fz.1 ≤ j ∧ j < fz.2))
    (H : ∀ h', Fr (fun k => k = b) h h' → h'.size = h.size → h'[b]? = some (.cells (cur.toList.take o ++ v.cells.toList ++ cur.toList.drop (o + i.size)).toArray e fz) → K undef h') : eff P (.store t x y) ty τ ρ h K := by
  refine eff_2 (x := x) (y := y) (by rfl) hx hy fun f hf1 hf2 => ?_
  simp only [execOp, Sop.oper, hf1, hf2]
  refine sr_u fun w hw => ?_
  subst hw
  have hone' : ∀ u ∈ v.cells.toList, u.oneCell' = true := fun u hu => by have := hone u hu; cases u <;> first | rfl | (simp [oneCell] at this)
  have hl : v.cells.toList.length = i.size := by rw [Array.length_toList, hsz]
  have hst := run_storeCells_cells (P := P) b o v.cells.toList 0 w (fun j hj => by simp [World.cell?, hb]; omega)
    (fun j hj => by
      have := hfz (o + 0 + j) (by omega) (by omega)
      simp only [World.frozen?, hb, Bool.and_eq_false_iff, decide_eq_false_iff_not]
      simp only [Nat.add_zero] at this ⊢
      omega) hone'
  simp only [Nat.add_zero] at hst
  rw [setCells_row b e fz v.cells.toList o cur w hb (by omega), hl] at hst
  refine ⟨(), w.setRow b (cur.toList.take o ++ v.cells.toList ++ cur.toList.drop (o + i.size)).toArray, ?_, ⟨rfl, rfl, rfl⟩, H _ ⟨by simp, fun k hk hn => setRow_other w b k _ hn⟩ (by simp) (setRow_heap w b cur _ e _ hb)⟩
  show (storeVar t ⟨b, o, none⟩ v).run P w = _
  have hsize : (sizeOf t).run P w = .ok i.size w := rd_run _ w i.size (by rw [rd_sizeOf hi])
  unfold storeVar
  rw [Sem.run_bind, hsize]
  simp only [Result.andThen, hsz, ne_eq, not_true_eq_false, if_false]
  exact hst
/-- The same, into a variable that was just made. -/
theorem eff_store_new {t : TypeId} {i : TypeInfo} (hi : P.info? t = some i) {x y : Operand} {v : Value} {cs : Array Value} {e : TypeId}
    (hx : evo τ ρ x = some (.pointer (some ⟨h.size, 0, none⟩))) (hy : evo τ ρ y = some v) (hsz : v.cells.size = i.size) (hone : ∀ u ∈ v.cells.toList, oneCell u = true) (hcs : cs.size = i.size)
    (H : ∀ h', Ext h h' → h.size < h'.size → Rd h' h.size 0 v.cells.toList → h'[h.size]? = some (.cells v.cells e (0, 0)) → K undef h') : eff P (.store t x y) ty τ ρ (h.push (.cells cs e)) K := by
  refine eff_storeN (cur := cs) (e := e) (fz := (0, 0)) hi hx hy hsz hone (by simp) (by omega) (by intro j _ _; simp) fun h' hf hs hb => ?_
  have hb' : h'[h.size]? = some (.cells v.cells e (0, 0)) := by
    rw [hb]
    have : cs.toList.drop (0 + i.size) = [] := by rw [List.drop_eq_nil_iff]; simp; omega
    rw [this]; simp
  refine H h' (Fr.trans (Ext.push h _) hf (fun _ _ h => h) fun k hk hS => by omega) (by rw [hs]; simp) ?_ hb'
  intro j u hu
  rw [Nat.zero_add, cellAt_of hb']; simpa using hu

/-- The cells of a type's zero. -/
def zrT (P : Program) (t : TypeId) (cs : Array Value) : Prop := ((P.info? t).bind fun i => i.zero.map fun z => (z.cells, i.size)) = some (cs, cs.size)
theorem zr_spec {t : TypeId} {cs : Array Value} (H : zrT P t cs) : ∃ i z, P.info? t = some i ∧ i.zero = some z ∧ z.cells = cs ∧ i.size = cs.size := by
  unfold zrT at H
  cases hi : P.info? t with
  | none => rw [hi] at H; cases H
  | some i =>
    rw [hi] at H
    cases hz : i.zero with
    | none => rw [Option.bind_some, hz] at H; cases H
    | some z =>
      rw [Option.bind_some, hz] at H
      simp only [Option.map_some, Option.some.injEq, Prod.mk.injEq] at H
      exact ⟨i, z, rfl, hz, H.1, H.2⟩
theorem eff_alloc_z {e : TypeId} {cs : Array Value} (hz : zrT P e cs) (H : K (.pointer (some ⟨h.size, 0, none⟩)) (h.push (.cells cs e))) : eff P (.alloc e) ty τ ρ h K := by
  obtain ⟨i, z, h1, h2, rfl, _⟩ := zr_spec hz
  exact eff_alloc h1 h2 H
theorem eff_store1_z {t : TypeId} {cs : Array Value} (hz : zrT P t cs) (hsz : cs.size = 1) {x y : Operand} {b o : Nat} {v u : Value} (hx : evo τ ρ x = some (.pointer (some ⟨b, o, none⟩))) (hy : evo τ ρ y = some v)
    (hv : v.cells = #[v]) (hone : oneCell v = true) (hc : cellAt h ⟨b, o, none⟩ = some u) (hfz : frozenAt h ⟨b, o, none⟩ = false) (H : K undef (setAt h ⟨b, o, none⟩ v)) : eff P (.store t x y) ty τ ρ h K := by
  obtain ⟨i, z, h1, h2, rfl, h3⟩ := zr_spec hz
  exact eff_store1 h1 (by omega) hx hy hv hone hc hfz H
theorem eff_store_new_z {t : TypeId} {cz : Array Value} (hz : zrT P t cz) {x y : Operand} {v : Value} {cs : Array Value} {e : TypeId}
    (hx : evo τ ρ x = some (.pointer (some ⟨h.size, 0, none⟩))) (hy : evo τ ρ y = some v) (hsz : v.cells.size = cz.size) (hone : ∀ u ∈ v.cells.toList, oneCell u = true) (hcs : cs.size = cz.size)
    (H : ∀ h', Ext h h' → h.size < h'.size → Rd h' h.size 0 v.cells.toList → h'[h.size]? = some (.cells v.cells e (0, 0)) → K undef h') : eff P (.store t x y) ty τ ρ (h.push (.cells cs e)) K := by
  obtain ⟨i, z, h1, h2, rfl, h3⟩ := zr_spec hz
  exact eff_store_new h1 hx hy (by omega) hone (by omega) H

/-! #### A slice that is read, elements of any number of cells -/
def SlN (h : Heap) (size : Nat) (v : Value) (n : Nat) (xs : List Value) : Prop := xs.length = n * size ∧ ∃ a c, v = .slice a n c ∧ (n = 0 ∨ ∃ b o, a = some ⟨b, o, none⟩ ∧ Rd h b o xs)
theorem Own.slN {base : Nat} {e : TypeId} {size : Nat} {v : Value} {n : Nat} {xs : List Value} (H : Own h base e size v n xs) : SlN h size v n xs := by
  refine ⟨H.1, ?_⟩
  rcases H.rd with ⟨rfl, rfl, rfl⟩ | ⟨g, cap, rfl, _, h3⟩
  · exact ⟨none, 0, rfl, .inl rfl⟩
  · exact ⟨_, cap, rfl, .inr ⟨g, 0, rfl, h3⟩⟩
theorem SlN.fr {S : Nat → Prop} {h' : Heap} {size : Nat} {v : Value} {n : Nat} {xs : List Value} (H : SlN h size v n xs) (hsz : 0 < size) (hf : Fr S h h') (hS : ∀ k, k < h.size → v.ownBlock = some k → ¬ S k) : SlN h' size v n xs := by
  obtain ⟨hl, a, c, rfl, h1⟩ := H
  refine ⟨hl, a, c, rfl, ?_⟩
  rcases h1 with h1 | ⟨b, o, rfl, h1⟩
  · exact .inl h1
  · by_cases hne : xs = []
    · subst hne
      rcases Nat.eq_zero_or_pos n with h0 | h0
      · exact .inl h0
      · exact absurd hl (by have := Nat.mul_pos h0 hsz; simp; omega)
    · have hb := h1.lt hne
      exact .inr ⟨b, o, rfl, hf.rd h1 hb (hS b hb rfl)⟩
theorem SlN.ext {h' : Heap} {size : Nat} {v : Value} {n : Nat} {xs : List Value} (H : SlN h size v n xs) (hsz : 0 < size) (hf : Ext h h') : SlN h' size v n xs := H.fr hsz hf fun _ _ _ => _root_.id
theorem Rd.sub {b o : Nat} {xs : List Value} (H : Rd h b o xs) (k m : Nat) : Rd h b (o + k) ((xs.drop k).take m) := by
  intro j v hv
  rw [List.getElem?_take] at hv
  split at hv
  · rw [List.getElem?_drop] at hv
    have := H (k + j) v hv
    rwa [← Nat.add_assoc] at this
  · cases hv
/-- The element at an index. -/
theorem SlN.at {size : Nat} {v : Value} {n : Nat} {xs : List Value} (H : SlN h size v n xs) {i : Nat} (hi : i < n) : ∃ b o c, v = .slice (some ⟨b, o, none⟩) n c ∧ Rd h b (o + i * size) ((xs.drop (i * size)).take size) ∧ ((xs.drop (i * size)).take size).length = size := by
  obtain ⟨hl, a, c, rfl, h1⟩ := H
  rcases h1 with rfl | ⟨b, o, rfl, h1⟩
  · omega
  · refine ⟨b, o, c, rfl, h1.sub _ _, ?_⟩
    rw [List.length_take, List.length_drop, hl]
    have : (i + 1) * size ≤ n * size := Nat.mul_le_mul_right _ hi
    rw [Nat.add_mul] at this
    omega
end
end Go.Vc

/- Stripping the model's code, the transformer over stripped code, and that it is sound for Calls. No condition. -/
import Derived.Test.YtohkbpnblkkdgaaVcA
namespace Go.Vc
set_option linter.unusedSimpArgs false
set_option linter.unusedVariables false

def still (P : Program) (x : Sop) (τ ρ : Env) (h : Heap) : Prop :=
  match x.dst with
  | none => False
  | some (t, _) => match x.guard with
    | none => rdOp P x τ ρ h = lk τ ρ t ∧ (lk τ ρ t).isSome = true
    | some (g, want) => match lk τ ρ g with
      | some v => asB v = some want → rdOp P x τ ρ h = lk τ ρ t ∧ (lk τ ρ t).isSome = true
      | none => False

def stills (P : Program) : List Sop → Env → Env → Heap → Prop
  | [], _, _, _ => True
  | x :: r, τ, ρ, h => still P x τ ρ h ∧ stills P r τ ρ h

def vcDraw (P : Program) (K : Env → Heap → Prop) : List (Sop × List Sop) → Env → Env → Heap → Prop
  | [], _, ρ, h => K ρ h
  | (o, re) :: r, τ, ρ, h => vcOne P o τ ρ h (fun τ' ρ' h' => stills P re τ' ρ' h' ∧ vcDraw P K r τ' ρ' h')

def vcT (P : Program) (K : Env → Heap → Prop) : Dt → Env → Env → Heap → Prop
  | .done, _, ρ, h => K ρ h
  | .run o re n, τ, ρ, h => vcOne P o τ ρ h (fun τ' ρ' h' => stills P re τ' ρ' h' ∧ vcT P K n τ' ρ' h')
  | .both a b, τ, ρ, h => vcT P K a τ ρ h ∧ vcT P K b τ ρ h

def Cd.vc (P : Program) : Cd → (Ex → Env → Heap → Prop) → Env → Heap → Prop
  | .skip, Q, ρ, h => Q .normal ρ h
  | .region ops, Q, ρ, h => vcOps P (Q .normal) ops [] ρ h
  | .draw ops, Q, ρ, h => vcDraw P (Q .normal) ops [] ρ h
  | .tree t, Q, ρ, h => vcT P (Q .normal) t [] ρ h
  | .seq a b, Q, ρ, h => a.vc P (Ex.thn (b.vc P Q) Q) ρ h
  | .cond c a b, Q, ρ, h => match (evo [] ρ c).bind asB with
    | some t => if t = true then a.vc P Q ρ h else b.vc P Q ρ h
    | none => False
  | .block id a, Q, ρ, h => a.vc P (Ex.inb id Q) ρ h
  | .loop a, Q, ρ, h => ∃ (ks : List Nat) (I : Nat → Env → Heap → Prop), (∃ m, I m (ρ.keep ks) h) ∧
      ∀ m ρ h, I m ρ h → a.vc P (Ex.thn (fun ρ' h' => ∃ m', m' < m ∧ I m' (ρ'.keep ks) h') Q) ρ h
  | .exit id, Q, ρ, h => Q (.exit id) ρ h
  | .ret, Q, ρ, h => Q .ret ρ h

/-! ### Stripping -/

def noSel : Op → Bool
  | .select .. => false
  | _ => true

def quietOp (P : Program) : Op → Bool
  | .move _ | .assign _ | .pick .. | .load .. | .nilCheck _ | .unOp .. | .slice .. | .fieldAddr .. | .field .. | .indexAddr .. | .index .. | .lookup .. | .extract .. | .build .. | .makeInterface .. | .makeFunc .. => true
  | .binOp .. => true
  | .convert src dst _ => match P.underlying src, P.underlying dst with
    | some .string, some (.slice _) => false
    | some (.slice _), some (.slice _) => false
    | _, _ => true
  | .call { callee := .builtin .len, .. } => true
  | .call { callee := .builtin .cap, .. } => true
  | .call { callee := .builtin .min, .. } => true
  | .call { callee := .builtin .max, .. } => true
  | _ => false

def stripOp (P : Program) (L : List Nat) (n : Nat) (ops : List Oper) (o : Oper) : Option Sop :=
  if noSel o.op then
    match (match o.dst with
      | none => some none
      | some t => if t < n then some (some (t, L.contains t)) else none),
      (match o.guard with
      | none => some none
      | some (j, want) => match (ops[j]?).bind (·.dst) with
        | some g => some (some (g, want))
        | none => none) with
    | some d, some g => some { dst := d, op := o.op, type := o.type, guard := g, q := quietOp P o.op }
    | _, _ => none
  else none

def stripOps (P : Program) (L : List Nat) (n : Nat) (ops : List Oper) : List Oper → Option (List Sop)
  | [] => some []
  | o :: r => match stripOp P L n ops o, stripOps P L n ops r with
    | some s, some t => some (s :: t)
    | _, _ => none

/-! ### The frame and the environment -/

structure Ag (L : List Nat) (n : Nat) (a : Act) (τ ρ : Env) : Prop where
  nod : a.defers = []
  sz : a.tmps.size = n
  t1 : ∀ t v, τ.get t = some v → a.tmps[t]? = some v
  r1 : ∀ t v, ρ.get t = some v → a.tmps[t]? = some v
  tL : ∀ t v, τ.get t = some v → L.contains t = false
  rL : ∀ t v, ρ.get t = some v → L.contains t = true

section
variable {L : List Nat} {n : Nat} {a : Act} {τ ρ : Env}
theorem Ag.lk (H : Ag L n a τ ρ) {t : Nat} {v : Value} (h : lk τ ρ t = some v) : a.tmps[t]? = some v := by
  unfold Go.Vc.lk at h
  cases ht : τ.get t with
  | some u => rw [ht] at h; exact H.t1 t v (ht.trans h)
  | none => rw [ht] at h; exact H.r1 t v h
theorem Ag.evo (H : Ag L n a τ ρ) {x : Operand} {v : Value} (h : evo τ ρ x = some v) : a.eval x = v := by
  cases x with
  | tmp t => simp [Act.eval, H.lk h]
  | const u => simp only [Go.Vc.evo, Option.some.injEq] at h; subst h; rfl
  | global g => simp only [Go.Vc.evo, Option.some.injEq] at h; subst h; rfl
  | func f => simp only [Go.Vc.evo, Option.some.injEq] at h; subst h; rfl
theorem Ag.evd (H : Ag L n a τ ρ) {x : Operand} (h : (Go.Vc.evo τ ρ x).isSome = true) : a.eval x = evd τ ρ x := by
  obtain ⟨v, hv⟩ := Option.isSome_iff_exists.1 h
  rw [H.evo hv]; simp [Go.Vc.evd, hv]
theorem Ag.drop (H : Ag L n a τ ρ) : Ag L n a [] ρ := ⟨H.nod, H.sz, fun t v h => by simp [Env.get] at h, H.r1, fun t v h => by simp [Env.get] at h, H.rL⟩
theorem Ag.keep (H : Ag L n a τ ρ) (ks : List Nat) : Ag L n a [] (ρ.keep ks) :=
  ⟨H.nod, H.sz, fun t v h => by simp [Env.get] at h, fun t v h => H.r1 t v (Env.get_keep ks ρ t v h), fun t v h => by simp [Env.get] at h, fun t v h => H.rL t v (Env.get_keep ks ρ t v h)⟩
theorem Ag.put (H : Ag L n a τ ρ) {t : Nat} (ht : t < n) (v : Value) : Ag L n (a.put (some t) v) (putT (some (t, L.contains t)) v τ) (putR (some (t, L.contains t)) v ρ) := by
  have hs : (a.put (some t) v).tmps.size = n := by simp [Act.put, H.sz]
  have hget : ∀ u, (a.put (some t) v).tmps[u]? = if t = u then some v else a.tmps[u]? := by
    intro u
    simp only [Act.put, Array.getElem?_setIfInBounds, H.sz]
    by_cases h : t = u
    · subst h; simp [ht]
    · simp [h]
  cases hL : L.contains t with
  | true =>
    refine ⟨H.nod, hs, ?_, ?_, H.tL, ?_⟩
    · intro u w hu
      rw [hget]
      by_cases h : t = u
      · subst h; have := H.tL t w hu; rw [hL] at this; cases this
      · rw [if_neg h]; exact H.t1 u w hu
    · intro u w hu
      simp only [putR, Env.get_set] at hu
      rw [hget]
      split at hu
      · rename_i h; rw [if_pos h]; exact hu
      · rename_i h; rw [if_neg h]; exact H.r1 u w hu
    · intro u w hu
      simp only [putR, Env.get_set] at hu
      split at hu
      · rename_i h; rw [← h]; exact hL
      · exact H.rL u w hu
  | false =>
    refine ⟨H.nod, hs, ?_, ?_, ?_, H.rL⟩
    · intro u w hu
      simp only [putT, Env.get] at hu
      rw [hget]
      split at hu
      · rename_i h; rw [if_pos h]; exact hu
      · rename_i h; rw [if_neg h]; exact H.t1 u w hu
    · intro u w hu
      rw [hget]
      by_cases h : t = u
      · subst h; have := H.rL t w hu; rw [hL] at this; cases this
      · rw [if_neg h]; exact H.r1 u w hu
    · intro u w hu
      simp only [putT, Env.get] at hu
      split at hu
      · rename_i h; rw [← h]; exact hL
      · exact H.tL u w hu
end

theorem execOp_oper (f : Operand → Value) (o : Oper) (s : Sop) (h1 : s.op = o.op) (h2 : s.type = o.type) : execOp f o = execOp f s.oper := by
  obtain ⟨dst, op, type, pos, after, guard⟩ := o
  obtain ⟨d, sop, st, g, q⟩ := s
  subst h1; subst h2
  rfl

section
variable {P : Program} {L : List Nat} {n : Nat} {Q : Exit → Act → World → Prop}

/-- What is done with what one operation yields. -/
theorem upon_sound {o : Oper} {a : Act} {w0 : World} {N : Act → World → Prop} {K : Value → Heap → Prop}
    (hN : ∀ v w', Same w0 w' → K v w'.heap → N (a.put o.dst v) w') {r : Result Next} {nx : Next} {w' : World}
    (hr : r = .ok nx w') (hs : Same w0 w') (hk : nextTo P K nx w'.heap) : o.upon P a N Q r := by
  subst hr
  cases nx <;> simp only [nextTo] at hk <;> first | exact hk.elim | skip
  case value v => exact hN v w' hs hk
  case skip => exact hN undef w' hs hk
  case enter f args =>
    refine (hk w' rfl).mono ?_
    rintro e w2 ⟨v, rfl, h2, h3⟩
    exact hN v w2 (hs.trans h2) h3

theorem op_sound {o : Oper} {s : Sop} {a : Act} {τ ρ : Env} {w0 w : World} (H : ∀ x ∈ o.op.operands, (evo τ ρ x).isSome = true → a.eval x = evd τ ρ x) (h1 : s.op = o.op) (h2 : s.type = o.type) (hsel : noSel o.op = true)
    (hs : Same w0 w) {N : Act → World → Prop} {K : Value → Heap → Prop} (hN : ∀ v w', Same w0 w' → K v w'.heap → N (a.put o.dst v) w')
    (hv : vcOp P s τ ρ w.heap K) : o.wp P a w N Q := by
  obtain ⟨hk, hr⟩ := hv
  have he : execOp a.eval o = execOp (evd τ ρ) s.oper := by
    rw [← execOp_oper _ o s h1 h2]
    refine execOp_congr o ?_ ?_
    · intro cs b e; rw [e] at hsel; simp [noSel] at hsel
    · intro x hx; exact H x hx (hk x (by rw [h1]; exact hx))
  obtain ⟨nx, w', r1, r2, r3⟩ := hr w rfl
  unfold Oper.wp
  exact upon_sound hN (by rw [he]; exact r1) (hs.trans r2) r3

theorem run_sound {o : Oper} {s : Sop} {a : Act} {τ ρ : Env} {w0 w : World} (H : ∀ x ∈ o.op.operands, (evo τ ρ x).isSome = true → a.eval x = evd τ ρ x) (h1 : s.op = o.op) (h2 : s.type = o.type) (hsel : noSel o.op = true)
    (hs : Same w0 w) {N : Act → World → Prop} {M : Env → Env → Heap → Prop}
    (hN : ∀ v w', Same w0 w' → M (putT s.dst v τ) (putR s.dst v ρ) w'.heap → N (a.put o.dst v) w')
    (hv : vcRun P s τ ρ w.heap M) : o.wp P a w N Q := by
  unfold vcRun at hv
  split at hv
  · have : vcOp P s τ ρ w.heap (fun v h' => M (putT s.dst v τ) (putR s.dst v ρ) h') := by
      cases hr : rdOp P s τ ρ w.heap with
      | none => rw [hr] at hv; exact hv.elim
      | some v =>
        rw [hr] at hv
        unfold rdOp at hr
        split at hr
        · rename_i hk
          refine ⟨hk, ?_⟩
          cases hx : rd P (execOp (evd τ ρ) s.oper) w.heap with
          | none => rw [hx] at hr; cases hr
          | some nx =>
            rw [hx] at hr
            cases nx <;> simp only [valOf] at hr <;> first | cases hr | skip
            exact sr_of_hr (hr_of_rd _ _ _ _ hx hv)
        · cases hr
    exact op_sound H h1 h2 hsel hs hN this
  · exact op_sound H h1 h2 hsel hs hN hv

theorem stripOp_spec {ops : List Oper} {o : Oper} {s : Sop} (h : stripOp P L n ops o = some s) :
    s.op = o.op ∧ s.type = o.type ∧ noSel o.op = true ∧ s.q = quietOp P o.op ∧
    ((o.dst = none ∧ s.dst = none) ∨ ∃ t, o.dst = some t ∧ t < n ∧ s.dst = some (t, L.contains t)) ∧
    ((o.guard = none ∧ s.guard = none) ∨ ∃ j want g, o.guard = some (j, want) ∧ (ops[j]?).bind (·.dst) = some g ∧ s.guard = some (g, want)) := by
  unfold stripOp at h
  split at h
  · rename_i hsel
    split at h
    · rename_i d g hd hg
      cases h
      refine ⟨rfl, rfl, hsel, rfl, ?_, ?_⟩
      · split at hd
        · rename_i he; cases hd; exact .inl ⟨he, rfl⟩
        · rename_i t he
          split at hd
          · rename_i hlt; cases hd; exact .inr ⟨t, he, hlt, rfl⟩
          · cases hd
      · split at hg
        · rename_i he; cases hg; exact .inl ⟨he, rfl⟩
        · rename_i j want he
          split at hg
          · rename_i g' hg'; cases hg; exact .inr ⟨j, want, g', he, hg', rfl⟩
          · cases hg
    · cases h
  · cases h

theorem put_none (a : Act) (v : Value) : a.put none v = a := rfl

theorem Ag.putS {a : Act} {τ ρ : Env} (H : Ag L n a τ ρ) {o : Oper} {s : Sop}
    (hd : (o.dst = none ∧ s.dst = none) ∨ ∃ t, o.dst = some t ∧ t < n ∧ s.dst = some (t, L.contains t)) (v : Value) :
    Ag L n (a.put o.dst v) (putT s.dst v τ) (putR s.dst v ρ) := by
  rcases hd with ⟨h1, h2⟩ | ⟨t, h1, h2, h3⟩
  · rw [h1, h2]; exact H
  · rw [h1, h3]; exact H.put h2 v

theorem asB_some {v : Value} {b : Bool} (h : asB v = some b) : v = .bool b := by
  cases v <;> simp [asB] at h
  subst h; rfl

/-- The guard, as the frame has it. -/
theorem wanted_eq {ops : Array Oper} {o : Oper} {a : Act} {τ ρ : Env} (H : Ag L n a τ ρ) {j : Nat} {want : Bool} {g : Nat}
    (h1 : o.guard = some (j, want)) (h2 : (ops.toList[j]?).bind (·.dst) = some g) {v : Value} (hv : lk τ ρ g = some v) :
    Region.wanted o (yielded ops a.tmps) = true ↔ asB v = some want := by
  have hg : (ops[j]?).bind (·.dst) = some g := by simpa using h2
  have ht := H.lk hv
  unfold Region.wanted yielded
  rw [h1]
  simp only [hg, Option.bind_some, ht]
  cases v <;> simp [asB]

theorem ops_sound {ops : Array Oper} {w0 : World} {K : Env → Heap → Prop} (hQ : ∀ a ρ w, Ag L n a [] ρ → Same w0 w → K ρ w.heap → Q .normal a w) :
    ∀ (l : List Oper) (sl : List Sop), stripOps P L n ops.toList l = some sl → ∀ (a : Act) (τ ρ : Env) (w : World), Ag L n a τ ρ → Same w0 w →
      vcOps P K sl τ ρ w.heap → wpList P ops Q l a w := by
  intro l
  induction l with
  | nil =>
    intro sl hsl a τ ρ w H hs hv
    simp only [stripOps] at hsl
    cases hsl
    exact hQ a ρ w H.drop hs hv
  | cons o r ih =>
    intro sl hsl a τ ρ w H hs hv
    simp only [stripOps] at hsl
    split at hsl
    · rename_i s t h1 h2
      cases hsl
      obtain ⟨e1, e2, e3, _, hd, hg⟩ := stripOp_spec h1
      have hN : ∀ v w', Same w0 w' → vcOps P K t (putT s.dst v τ) (putR s.dst v ρ) w'.heap → wpList P ops Q r (a.put o.dst v) w' :=
        fun v w' hs' hk => ih t h2 _ _ _ w' (H.putS hd v) hs' hk
      simp only [vcOps, vcOne] at hv
      unfold wpList
      rcases hg with ⟨g1, g2⟩ | ⟨j, want, g, g1, g2, g3⟩
      · rw [g2] at hv
        rw [if_pos (by simp [Region.wanted, g1])]
        exact .inl (run_sound (fun _ _ hx => H.evd hx) e1 e2 e3 hs hN hv)
      · rw [g3] at hv
        cases hl : lk τ ρ g with
        | none => simp only [hl] at hv
        | some v =>
          simp only [hl] at hv
          have hw := wanted_eq H g1 g2 hl
          by_cases hb : asB v = some want
          · rw [if_pos hb] at hv
            rw [if_pos (hw.2 hb)]
            exact .inl (run_sound (fun _ _ hx => H.evd hx) e1 e2 e3 hs hN hv)
          · rw [if_neg hb] at hv
            rw [if_neg (fun h => hb (hw.1 h))]
            exact hN undef w hs hv
    · cases hsl

theorem region_sound {id : Nat} {ops : Array Oper} {sl : List Sop} {w0 w : World} {a : Act} {ρ : Env} {K : Env → Heap → Prop}
    (hQ : ∀ a ρ w, Ag L n a [] ρ → Same w0 w → K ρ w.heap → Q .normal a w) (h : stripOps P L n ops.toList ops.toList = some sl)
    (H : Ag L n a [] ρ) (hs : Same w0 w) (hv : vcOps P K sl [] ρ w.heap) : (Code.region id ops false).wp P Q a w :=
  wp_region_list (ops_sound hQ _ _ h a [] ρ w H hs hv)
end
end Go.Vc

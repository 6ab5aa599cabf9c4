/- The whole code of a function; calls over heaps out of the transformer. No condition. -/
import Derived.Test.YtohkbpnblkkdgaaVcO
import Derived.Laws.Sem
namespace Go.Vc
set_option linter.unusedSimpArgs false
set_option linter.unusedVariables false

def strip (P : Program) (L : List Nat) (n : Nat) : Code → Option Cd
  | .skip => some .skip
  | .region _ ops false => (stripOps P L n ops.toList ops.toList).map .region
  | .region _ ops true =>
    let cl := closAll ops
    if drawOk P n ops cl && ops.all (fun o => noSel o.op) then (match stripDraw P L n ops cl ops.size [] with
      | some sl => some (.draw sl)
      | none => (stripTree P L n ops cl ops.size []).map .tree) else none
  | .seq a b => match strip P L n a, strip P L n b with
    | some x, some y => some (.seq x y)
    | _, _ => none
  | .cond c a b => match strip P L n a, strip P L n b with
    | some x, some y => some (.cond c x y)
    | _, _ => none
  | .block id a => (strip P L n a).map (.block id)
  | .loop a => (strip P L n a).map .loop
  | .exit id => some (.exit id)
  | .ret => some .ret
  | _ => none

section
variable {P : Program} {L : List Nat} {n : Nat}

def LQ (L : List Nat) (n : Nat) (w0 : World) (Q : Ex → Env → Heap → Prop) : Exit → Act → World → Prop
  | .normal, a, w => ∃ ρ, Ag L n a [] ρ ∧ Same w0 w ∧ Q .normal ρ w.heap
  | .exit id, a, w => ∃ ρ, Ag L n a [] ρ ∧ Same w0 w ∧ Q (.exit id) ρ w.heap
  | .ret, a, w => ∃ ρ, Ag L n a [] ρ ∧ Same w0 w ∧ Q .ret ρ w.heap
  | _, _, _ => False

/-- A loop whose measure stands nowhere. -/
theorem wp_loop_ghost {P : Program} {Q : Exit → Act → World → Prop} {c : Code} (I : Nat → Act → World → Prop)
    (round : ∀ m a w, I m a w → c.wp P (Exit.then (fun a' w' => ∃ m', m' < m ∧ I m' a' w') Q) a w) : ∀ m a w, I m a w → (Code.loop c).wp P Q a w := by
  intro m a w hI b k cs
  have key : ∀ m a w, I m a w → ∃ e a' w', Q e a' w' ∧ Arrives P (lone (b.at a (.code c :: .inLoop c :: k)) cs w) b k cs e a' w' := by
    intro m
    induction m using Nat.strongRecOn with
    | _ m ih =>
      intro a w hI
      obtain ⟨e, a₁, w₁, hq, harr⟩ := round m a w hI b (.inLoop c :: k) cs
      cases e with
      | normal =>
        obtain ⟨m', hlt, hI₁⟩ := hq
        obtain ⟨e₂, a₂, w₂, hq₂, harr₂⟩ := ih m' hlt a₁ w₁ hI₁
        exact ⟨e₂, a₂, w₂, hq₂, .of_steps (Steps.trans harr (.one step_inLoop)) harr₂⟩
      | exit id => exact ⟨_, a₁, w₁, hq, .pass (x := .inLoop c) rfl (fun _ _ => .inl (by simp)) harr⟩
      | goto l => exact ⟨_, a₁, w₁, hq, .pass (x := .inLoop c) rfl (fun _ _ => .inl (by simp)) harr⟩
      | ret => exact ⟨_, a₁, w₁, hq, .pass (x := .inLoop c) rfl (fun _ _ => .inl (by simp)) harr⟩
      | panic ch => exact ⟨_, a₁, w₁, hq, .pass (x := .inLoop c) rfl (fun _ _ => .inl (by simp)) harr⟩
      | outgrown => exact ⟨_, a₁, w₁, hq, .pass (x := .inLoop c) rfl (fun _ _ => .inl (by simp)) harr⟩
  obtain ⟨e, a', w', hq, harr⟩ := key m a w hI
  exact ⟨e, a', w', hq, .of_steps (.one step_loop) harr⟩

theorem vc_sound (hm : P.follows .mixedOrders = true) : ∀ (c : Code) (cd : Cd), strip P L n c = some cd → ∀ (Q : Ex → Env → Heap → Prop) (w0 : World) (a : Act) (ρ : Env) (w : World),
    Ag L n a [] ρ → Same w0 w → cd.vc P Q ρ w.heap → c.wp P (LQ L n w0 Q) a w := by
  intro c
  induction c with
  | skip => intro cd h Q w0 a ρ w H hs hv; cases h; exact wp_skip ⟨ρ, H, hs, hv⟩
  | region id ops draw =>
    intro cd h Q w0 a ρ w H hs hv
    cases draw with
    | false =>
      simp only [strip] at h
      cases hx : stripOps P L n ops.toList ops.toList with
      | none => rw [hx] at h; cases h
      | some sl => rw [hx] at h; cases h; exact region_sound (fun a ρ w h1 h2 h3 => ⟨ρ, h1, h2, h3⟩) hx H hs hv
    | true =>
      simp only [strip] at h
      split at h
      · rename_i hb
        rw [Bool.and_eq_true] at hb
        cases hx : stripDraw P L n ops (closAll ops) ops.size [] with
        | none =>
          rw [hx] at h
          cases hy : stripTree P L n ops (closAll ops) ops.size [] with
          | none => rw [hy] at h; cases h
          | some t => rw [hy] at h; cases h; exact tree_sound hm (fun a ρ w h1 h2 h3 => ⟨ρ, h1, h2, h3⟩) hb.1 hb.2 hy H hs hv
        | some sl => rw [hx] at h; cases h; exact draw_sound hm (fun a ρ w h1 h2 h3 => ⟨ρ, h1, h2, h3⟩) hb.1 hb.2 hx H hs hv
      · cases h
  | seq x y ihx ihy =>
    intro cd h Q w0 a ρ w H hs hv
    simp only [strip] at h
    split at h
    · rename_i cx cy h1 h2
      cases h
      refine wp_seq (wp_mono (ihx cx h1 _ w0 a ρ w H hs hv) ?_)
      intro e a' w' hq
      cases e with
      | normal => obtain ⟨ρ', k1, k2, k3⟩ := hq; exact ihy cy h2 Q w0 a' ρ' w' k1 k2 k3
      | exit id => obtain ⟨ρ', k1, k2, k3⟩ := hq; exact ⟨ρ', k1, k2, k3⟩
      | ret => obtain ⟨ρ', k1, k2, k3⟩ := hq; exact ⟨ρ', k1, k2, k3⟩
      | _ => exact hq.elim
    · cases h
  | cond o x y ihx ihy =>
    intro cd h Q w0 a ρ w H hs hv
    simp only [strip] at h
    split at h
    · rename_i cx cy h1 h2
      cases h
      simp only [Cd.vc] at hv
      cases ho : evo [] ρ o with
      | none => rw [ho] at hv; exact hv.elim
      | some u =>
        rw [ho] at hv
        simp only [Option.bind_some] at hv
        cases hb : asB u with
        | none => rw [hb] at hv; exact hv.elim
        | some t =>
          rw [hb] at hv
          have he : a.eval o = .bool t := by rw [H.evo ho]; exact asB_some hb
          refine wp_cond he ?_
          cases t with
          | true => exact ihx cx h1 Q w0 a ρ w H hs hv
          | false => exact ihy cy h2 Q w0 a ρ w H hs hv
    · cases h
  | block id x ih =>
    intro cd h Q w0 a ρ w H hs hv
    simp only [strip] at h
    cases hx : strip P L n x with
    | none => rw [hx] at h; cases h
    | some cx =>
      rw [hx] at h; cases h
      refine wp_block (wp_mono (ih cx hx _ w0 a ρ w H hs hv) ?_)
      intro e a' w' hq
      cases e with
      | normal => exact hq
      | exit id' =>
        obtain ⟨ρ', k1, k2, k3⟩ := hq
        simp only [Ex.inb] at k3
        simp only [Exit.inBlock]
        split
        · rename_i he; rw [if_pos he] at k3; exact ⟨ρ', k1, k2, k3⟩
        · rename_i he; rw [if_neg he] at k3; exact ⟨ρ', k1, k2, k3⟩
      | ret => exact hq
      | _ => exact hq.elim
  | loop x ih =>
    intro cd h Q w0 a ρ w H hs hv
    simp only [strip] at h
    cases hx : strip P L n x with
    | none => rw [hx] at h; cases h
    | some cx =>
      rw [hx] at h; cases h
      obtain ⟨ks, I, ⟨m0, h0⟩, hround⟩ := hv
      refine wp_loop_ghost (fun m a w => ∃ ρ, Ag L n a [] ρ ∧ Same w0 w ∧ I m ρ w.heap) ?_ m0 a w ⟨ρ.keep ks, H.keep ks, hs, h0⟩
      rintro m a' w' ⟨ρ', k1, k2, k3⟩
      refine wp_mono (ih cx hx _ w0 a' ρ' w' k1 k2 (hround m ρ' w'.heap k3)) ?_
      intro e a2 w2 hq
      cases e with
      | normal =>
        obtain ⟨ρ2, j1, j2, m', j3, j4⟩ := hq
        exact ⟨m', j3, ρ2.keep ks, j1.keep ks, j2, j4⟩
      | exit id => exact hq
      | ret => exact hq
      | _ => exact hq.elim
  | exit id => intro cd h Q w0 a ρ w H hs hv; cases h; exact wp_exit ⟨ρ, H, hs, hv⟩
  | ret => intro cd h Q w0 a ρ w H hs hv; cases h; exact wp_ret ⟨ρ, H, hs, hv⟩
  | rangeFunc _ _ _ _ _ _ => intro cd h; cases h
  | scope _ _ => intro cd h; cases h
  | label _ => intro cd h; cases h
  | goto _ => intro cd h; cases h
  | refuse _ => intro cd h; cases h
end

/-! ### The function's results -/

/-- Where the results lie: in slots, or in cells that slots point to. -/
def rslot : ResultVar → Nat × Option TypeId
  | .tmp t => (t, none)
  | .cell t ty => (t, some ty)
def resSlots (fn : Func) : List (Nat × Option TypeId) := fn.results.toList.map rslot
def OptK {α : Type} (o : Option α) (K : α → Prop) : Prop :=
  match o with
  | some v => K v
  | none => False
def res1 (P : Program) (ρ : Env) (h : Heap) : Nat × Option TypeId → Option Value
  | (t, none) => ρ.get t
  | (t, some ty) => (ρ.get t).bind fun v => rd P (do loadVar ty (← asAddr v)) h
def gets (P : Program) (ρ : Env) (h : Heap) : List (Nat × Option TypeId) → Option (List Value)
  | [] => some []
  | t :: r => (res1 P ρ h t).bind fun v => (gets P ρ h r).map fun l => v :: l
def tup : List Value → Value
  | [v] => v
  | l => .tuple l.toArray

def retQ (P : Program) (ts : List (Nat × Option TypeId)) (R : Value → Heap → Prop) : Ex → Env → Heap → Prop
  | .normal, ρ, h => OptK (gets P ρ h ts) fun l => R (tup l) h
  | .ret, ρ, h => OptK (gets P ρ h ts) fun l => R (tup l) h
  | _, _, _ => False

def initEnv (args : List Value) : List Nat → Env
  | [] => []
  | t :: r => (t, args.getD t undef) :: initEnv args r

theorem initEnv_get (args : List Value) : ∀ (L : List Nat) (t : Nat) (v : Value), (initEnv args L).get t = some v → L.contains t = true ∧ v = args.getD t undef := by
  intro L
  induction L with
  | nil => intro t v h; simp [initEnv, Env.get] at h
  | cons k r ih =>
    intro t v h
    simp only [initEnv, Env.get] at h
    split at h
    · rename_i he; subst he; cases h; exact ⟨by simp, rfl⟩
    · obtain ⟨h1, h2⟩ := ih t v h
      exact ⟨by simp only [List.contains_cons, h1, Bool.or_true], h2⟩

theorem rd_mapM {P : Program} {α : Type} (h : Heap) (f : α → Sem Value) : ∀ (l : List α) (vs : List Value), (l.map fun x => rd P (f x) h) = vs.map some → rd P (l.mapM f) h = some vs := by
  intro l
  induction l with
  | nil => intro vs hv; cases vs with
    | nil => rfl
    | cons v vs => simp at hv
  | cons x l ih =>
    intro vs hv
    cases vs with
    | nil => simp at hv
    | cons v vs =>
      simp only [List.map_cons, List.cons.injEq] at hv
      rw [List.mapM_cons, rd_bind', hv.1, Option.bind_some, rd_bind', ih vs hv.2]
      rfl

theorem results_eq {P : Program} {fn : Func} {a : Act} {ρ : Env} (H : ∀ t v, ρ.get t = some v → a.tmps[t]? = some v) {w : World} {l : List Value} (hl : gets P ρ w.heap (resSlots fn) = some l) :
    (results fn a.tmps).run P w = .ok (tup l) w := by
  refine rd_run _ w _ ?_
  have hfn : fn.results = fn.results.toList.toArray := by simp
  unfold results
  have key : ∀ (rs : List ResultVar) (l : List Value), gets P ρ w.heap (rs.map rslot) = some l →
      (rs.map fun x => rd P (match x with | .tmp t => pure (a.tmps.getD t undef) | .cell b t => do loadVar t (← asAddr (a.tmps.getD b undef)) : Sem Value) w.heap) = l.map some := by
    intro rs
    induction rs with
    | nil => intro l hl; simp only [List.map_nil, gets, Option.some.injEq] at hl; subst hl; rfl
    | cons r rs ih =>
      intro l hl
      simp only [List.map_cons, gets] at hl
      cases hv : res1 P ρ w.heap (rslot r) with
      | none => rw [hv] at hl; cases hl
      | some v =>
        rw [hv] at hl
        simp only [Option.bind_some] at hl
        cases hr : gets P ρ w.heap (rs.map rslot) with
        | none => rw [hr] at hl; cases hl
        | some l' =>
          rw [hr] at hl
          cases hl
          simp only [List.map_cons]
          rw [ih l' hr]
          congr 1
          cases r with
          | tmp t =>
            simp only [rslot, res1] at hv
            have := H t v hv
            simp [rd_pure, this]
          | cell t ty =>
            simp only [rslot, res1] at hv
            cases hg : ρ.get t with
            | none => rw [hg] at hv; cases hv
            | some u =>
              rw [hg] at hv
              have := H t u hg
              simp only [Option.bind_some] at hv
              have he : a.tmps.getD t undef = u := by simp [this]
              simp only [he]; exact hv
  have hk := key fn.results.toList l hl
  rw [rd_bind', hfn, List.mapM_toArray]
  have hmap : ∀ (s : Sem (List Value)), rd P s w.heap = some l → rd P (Functor.map List.toArray s) w.heap = some l.toArray := by
    intro s hs
    show rd P (s.bind fun x => Sem.pure x.toArray) w.heap = _
    rw [rd_bind, hs]; rfl
  rw [hmap _ (rd_mapM w.heap _ fn.results.toList l ?_), Option.bind_some]
  · match l with
    | [] => rfl
    | [v] => rfl
    | v :: u :: r => simp [tup, rd_pure]
  · exact (List.map_congr_left (fun x _ => by cases x <;> rfl)).trans hk

def stripF (P : Program) (L : List Nat) (fn : Func) : Option Cd :=
  match fn.body with
  | some c => strip P L fn.ntmps c
  | none => none

/-- A call, out of the transformer of its function's code. -/
theorem hcalls_of_vc {P : Program} {f : FuncId} {fn : Func} {cd : Cd} {L : List Nat} {ts : List (Nat × Option TypeId)} {args : List Value} {h : Heap} {R : Value → Heap → Prop} (hm : P.follows .mixedOrders = true)
    (hf : P.funcs[f]? = some fn) (hs : stripF P L fn = some cd) (hr : resSlots fn = ts) (hn : args.length ≤ fn.ntmps ∧ L.all (fun t => decide (t < fn.ntmps)) = true)
    (hv : cd.vc P (retQ P ts R) (initEnv args L) h) : HCalls P f args.toArray h R := by
  intro w hw
  unfold stripF at hs
  cases hb : fn.body with
  | none => rw [hb] at hs; cases hs
  | some c =>
    rw [hb] at hs
    simp only [] at hs
    refine calls_of_wp hf hb ?_
    have hsz : (args.toArray ++ Array.replicate (fn.ntmps - args.toArray.size) undef).size = fn.ntmps := by simp; omega
    have H : Ag L fn.ntmps { tmps := args.toArray ++ Array.replicate (fn.ntmps - args.toArray.size) undef, defers := [] } [] (initEnv args L) := by
      refine ⟨rfl, hsz, fun t v h => by simp [Env.get] at h, ?_, fun t v h => by simp [Env.get] at h, fun t v h => (initEnv_get args L t v h).1⟩
      intro t v h
      obtain ⟨h1, rfl⟩ := initEnv_get args L t v h
      have htn : t < fn.ntmps := by
        have := hn.2
        rw [List.all_eq_true] at this
        simpa using this t (by simpa using h1)
      by_cases hta : t < args.length
      · simp [Array.getElem?_append, hta]
      · have : t - args.length < fn.ntmps - args.length := by omega
        simp [Array.getElem?_append, hta, this]
    refine wp_mono (vc_sound hm c cd hs _ w _ _ w H (.refl w) (by rw [hw]; exact hv)) ?_
    intro e a' w' hq
    have fin : ∀ ρ, Ag L fn.ntmps a' [] ρ → Same w w' → OptK (gets P ρ w'.heap ts) (fun l => R (tup l) w'.heap) →
        a'.defers = [] ∧ ∃ v, (results fn a'.tmps).run P w' = .ok v w' ∧ (∃ v', Ending.returned v = .returned v' ∧ Same w w' ∧ R v' w'.heap) := by
      intro ρ k1 k2 k3
      cases hl : gets P ρ w'.heap ts with
      | none => rw [hl] at k3; exact k3.elim
      | some l => rw [hl] at k3; exact ⟨k1.nod, tup l, results_eq (fun t v h => k1.r1 t v h) (by rw [hr]; exact hl), tup l, rfl, k2, k3⟩
    cases e with
    | normal => obtain ⟨ρ, k1, k2, k3⟩ := hq; exact fin ρ k1 k2 k3
    | ret => obtain ⟨ρ, k1, k2, k3⟩ := hq; exact fin ρ k1 k2 k3
    | exit id => obtain ⟨ρ, k1, k2, k3⟩ := hq; exact k3.elim
    | _ => exact hq.elim
end Go.Vc

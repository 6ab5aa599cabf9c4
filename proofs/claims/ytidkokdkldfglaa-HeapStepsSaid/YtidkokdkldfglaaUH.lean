/- All looked at, plainly, by its steps: marked, numbered, turned, put together. No condition. -/
import Derived.Test.YtidkokdkldfglaaUG
namespace Go.Proofs.Ytidkokdkldfglaa
open Go.Vc
set_option maxRecDepth 100000
set_option linter.unusedSimpArgs false
set_option linter.unusedVariables false

/-- Marked. -/
def mkd (s : St) (k : Nat) : Prop := ∃ c, s.old[k]? = some c ∧ c.to ≠ 0
def unN (c : CP) : Nat := if c.to = 0 then 1 else 0
structure KInv (s0 s : St) (todo : List Nat) (cur : Nat → Prop) : Prop where
  eq : s = { s0 with old := s.old }
  ol : s.old.length = s0.old.length
  oc : ∀ (k : Nat) c, s.old[k]? = some c → ∃ c0, s0.old[k]? = some c0 ∧ c = { c0 with to := c.to } ∧ (c.to = 0 ∨ (c.to = k ∧ PR s0 k))
  td : ∀ k ∈ todo, mkd s k
  ch : ∀ k, mkd s k → k ∉ todo → ¬ cur k → ∀ c, s0.old[k]? = some c → ∀ x ∈ rl s0 c, x = 0 ∨ mkd s x
  cn : todo.length + sumF unN s.old ≤ s0.old.length
def markP (s : St) (x : Nat) : St := match s.old[x]? with
  | some c => if x ≠ 0 ∧ c.to = 0 then { s with old := s.old.set x { c with to := x } } else s
  | none => s
def markT (s : St) (todo : List Nat) (x : Nat) : List Nat := match s.old[x]? with
  | some c => if x ≠ 0 ∧ c.to = 0 then todo ++ [x] else todo
  | none => todo
theorem unN_le (l : List CP) : sumF unN l ≤ l.length := by
  induction l with
  | nil => simp [sumF_nil]
  | cons c l ih =>
    have : unN c ≤ 1 := by unfold unN; split <;> omega
    rw [sumF_cons, List.length_cons]; omega
theorem KInv.start {s0 : St} (I : Inv s0) : KInv s0 s0 [] (fun _ => False) := by
  have il := I.len
  have t0 : ∀ (k : Nat) c, s0.old[k]? = some c → c.to = 0 := fun k c hk => by
    have := (List.getElem?_eq_some_iff.1 hk).1
    exact I.to k c (by unfold look; rw [if_pos (by omega)]; exact hk)
  refine ⟨rfl, rfl, fun k c hk => ⟨c, hk, rfl, .inl (t0 k c hk)⟩, by simp, fun k hm => ?_, by simpa using unN_le s0.old⟩
  obtain ⟨c, h1, h2⟩ := hm
  exact absurd (t0 k c h1) h2
theorem mark_step {s0 s : St} {todo : List Nat} {cur : Nat → Prop} (K : KInv s0 s todo cur) {x : Nat} (hx : x < s0.old.length) (hp : PR s0 x) :
    KInv s0 (markP s x) (markT s todo x) cur ∧ (x = 0 ∨ mkd (markP s x) x) ∧ (∀ k, mkd s k → mkd (markP s x) k) ∧ (markT s todo x).length + sumF unN (markP s x).old = todo.length + sumF unN s.old := by
  have hxl : x < s.old.length := by rw [K.ol]; exact hx
  have hc : s.old[x]? = some s.old[x] := by simp
  generalize s.old[x] = c at hc
  unfold markP markT
  rw [hc]
  simp only
  split
  · next h =>
    have og := set_get (c' := { c with to := x }) hc
    have mm : ∀ k, mkd s k → mkd { s with old := s.old.set x { c with to := x } } k := by
      rintro k ⟨d, h1, h2⟩
      by_cases e : k = x
      · subst e; rw [hc] at h1; cases h1; exact absurd h.2 h2
      · exact ⟨d, by show (s.old.set x _)[k]? = _; rw [og, if_neg e]; exact h1, h2⟩
    have mx : mkd { s with old := s.old.set x { c with to := x } } x := ⟨_, by show (s.old.set x _)[x]? = _; rw [og, if_pos rfl], h.1⟩
    have mb : ∀ k, mkd { s with old := s.old.set x { c with to := x } } k → k = x ∨ mkd s k := by
      rintro k ⟨d, h1, h2⟩
      have h1 : (s.old.set x { c with to := x })[k]? = some d := h1
      rw [og] at h1
      split at h1
      · next e => exact .inl e
      · exact .inr ⟨d, h1, h2⟩
    have hs := sumF_set (f := unN) (c' := { c with to := x }) hc
    have u1 : unN c = 1 := by unfold unN; rw [if_pos h.2]
    have u2 : unN { c with to := x } = 0 := by unfold unN; rw [if_neg h.1]
    have hcn := K.cn
    refine ⟨⟨?_, by show (s.old.set x _).length = _; rw [List.length_set]; exact K.ol, ?_, ?_, ?_, ?_⟩, .inr mx, mm, ?_⟩
    · have := K.eq
      show ({ s with old := s.old.set x { c with to := x } } : St) = { s0 with old := s.old.set x { c with to := x } }
      rw [this]
    · intro k d hk
      have hk : (s.old.set x { c with to := x })[k]? = some d := hk
      rw [og] at hk
      split at hk
      · next e =>
        cases hk
        rw [e]
        obtain ⟨c0, h1, h2, _⟩ := K.oc x c hc
        refine ⟨c0, h1, ?_, .inr ⟨rfl, hp⟩⟩
        rw [h2]
      · exact K.oc k d hk
    · intro k hk
      rcases List.mem_append.1 hk with h1 | h1
      · exact mm k (K.td k h1)
      · simp only [List.mem_singleton] at h1; subst h1; exact mx
    · intro k hm hn hcu d hd y hy
      rcases mb k hm with e | h1
      · subst e; exact absurd (List.mem_append_right _ (List.mem_singleton.2 rfl)) hn
      · rcases K.ch k h1 (fun hh => hn (List.mem_append_left _ hh)) hcu d hd y hy with h2 | h2
        · exact .inl h2
        · exact .inr (mm y h2)
    · show (todo ++ [x]).length + sumF unN (s.old.set x { c with to := x }) ≤ _
      simp only [List.length_append, List.length_cons, List.length_nil]
      omega
    · show (todo ++ [x]).length + sumF unN (s.old.set x { c with to := x }) = _
      simp only [List.length_append, List.length_cons, List.length_nil]
      omega
  · next h =>
    refine ⟨K, ?_, fun k hk => hk, rfl⟩
    by_cases e : x = 0
    · exact .inl e
    · exact .inr ⟨c, hc, fun h0 => h ⟨e, h0⟩⟩
theorem KInv.pop {s0 s : St} {todo : List Nat} {k : Nat} (K : KInv s0 s (todo ++ [k]) fun _ => False) : KInv s0 s todo (fun j => j = k) ∧ mkd s k := by
  refine ⟨⟨K.eq, K.ol, K.oc, fun j hj => K.td j (List.mem_append_left _ hj), fun j hm hn hc => K.ch j hm (fun hh => ?_) (fun h => h), ?_⟩, K.td k (by simp)⟩
  · rcases List.mem_append.1 hh with h | h
    · exact hn h
    · simp only [List.mem_singleton] at h; exact hc h
  · have := K.cn
    simp only [List.length_append, List.length_cons, List.length_nil] at this
    omega
theorem KInv.popped {s0 s : St} {todo : List Nat} {k : Nat} (K : KInv s0 s todo fun j => j = k) (h : ∀ c, s0.old[k]? = some c → ∀ x ∈ rl s0 c, x = 0 ∨ mkd s x) : KInv s0 s todo fun _ => False :=
  ⟨K.eq, K.ol, K.oc, K.td, fun j hm hn _ c hc x hx => by
    by_cases e : j = k
    · subst e; exact h c hc x hx
    · exact K.ch j hm hn e c hc x hx, K.cn⟩
def mB (s : St) (k : Nat) : Bool := match s.old[k]? with
  | some c => c.to != 0
  | none => false
theorem mB_iff {s : St} {k : Nat} : mB s k = true ↔ mkd s k := by
  unfold mB mkd
  cases h : s.old[k]? with
  | none => simp
  | some c => simp
/-- All that can be reached is marked, and no more. -/
theorem KInv.done {s0 s : St} (I : Inv s0) (hy : s0.young = [nul]) (K : KInv s0 s [] fun _ => False) (hr : ∀ x ∈ s0.roots, x = 0 ∨ mkd s x) : ∀ k, mB s k = true ↔ k ≠ 0 ∧ PR s0 k := by
  have il := I.len
  intro k
  rw [mB_iff]
  constructor
  · rintro ⟨c, h1, h2⟩
    obtain ⟨c0, _, _, h5⟩ := K.oc k c h1
    rcases h5 with h5 | ⟨h5, h6⟩
    · exact absurd h5 h2
    · exact ⟨by omega, h6⟩
  · rintro ⟨h0, hp⟩
    have : k = 0 ∨ mkd s k := by
      clear h0
      induction hp with
      | root h => exact hr _ h
      | step hpr hr0 hl hx ih =>
        rename_i r x c
        rcases ih with e | hm
        · exact absurd e hr0
        · obtain ⟨d, h1, h2⟩ := hm
          have hrl := (List.getElem?_eq_some_iff.1 h1).1
          rw [K.ol] at hrl
          have lk : s0.old[r]? = some c := by
            unfold look at hl; rw [if_pos (by omega)] at hl; exact hl
          exact K.ch r ⟨d, h1, h2⟩ (by simp) (fun h => h) c lk x hx
    rcases this with e | hm
    · exact absurd e h0
    · exact hm
/-! ### Numbered -/
def ren (m : Nat → Bool) (k : Nat) (l : List CP) : List CP := l.mapIdx fun i c => if i < k ∧ m i = true then { c with to := cnt m i } else c
theorem ren_get {m : Nat → Bool} {k : Nat} {l : List CP} {i : Nat} : (ren m k l)[i]? = (l[i]?).map fun c => if i < k ∧ m i = true then { c with to := cnt m i } else c := by
  unfold ren; rw [List.getElem?_mapIdx]
theorem ren_len {m : Nat → Bool} {k : Nat} {l : List CP} : (ren m k l).length = l.length := by unfold ren; simp
theorem ren_step {m : Nat → Bool} {k : Nat} {l : List CP} {c : CP} (hc : l[k]? = some c) (hm : m k = true) : (ren m k l).set k { c with to := cnt m k } = ren m (k + 1) l := by
  apply List.ext_getElem?
  intro i
  have hk : (ren m k l)[k]? = some c := by rw [ren_get, hc]; simp
  rw [set_get hk, ren_get, ren_get]
  split
  · next e => subst e; rw [hc]; simp [hm]
  · next e =>
    cases l[i]? with
    | none => rfl
    | some d =>
      simp only [Option.map_some]
      congr 1
      by_cases h : i < k
      · simp [h, show i < k + 1 by omega]
      · simp [h, show ¬ i < k + 1 by omega]
theorem ren_skip {m : Nat → Bool} {k : Nat} {l : List CP} (hm : m k = false) : ren m (k + 1) l = ren m k l := by
  apply List.ext_getElem?
  intro i
  rw [ren_get, ren_get]
  cases l[i]? with
  | none => rfl
  | some d =>
    simp only [Option.map_some]
    congr 1
    by_cases e : i = k
    · subst e; simp [hm]
    · by_cases h : i < k
      · simp [h, show i < k + 1 by omega]
      · simp [h, show ¬ i < k + 1 by omega]
theorem keepB_cons {m : Nat → Bool} {i : Nat} {c : CP} {r : List CP} : keepB m i (c :: r) = if m i = true then c :: keepB m (i + 1) r else keepB m (i + 1) r := rfl
theorem keepB_app {m : Nat → Bool} : ∀ (a b : List CP) (i : Nat), keepB m i (a ++ b) = keepB m i a ++ keepB m (i + a.length) b
  | [], b, i => rfl
  | c :: a, b, i => by
    rw [List.cons_append, keepB_cons, keepB_cons, keepB_app a b (i + 1), List.length_cons, show i + (a.length + 1) = i + 1 + a.length by omega]
    split <;> rfl
/-- The sum so far. -/
def usum (m : Nat → Bool) (r : List CP) (k : Nat) : Nat := wsum (keepB m 1 (r.take (k - 1)))
theorem usum_step {m : Nat → Bool} {r : List CP} {k : Nat} {c : CP} (hk : k ≠ 0) (hc : r[k - 1]? = some c) : usum m r (k + 1) = usum m r k + (if m k = true then c.size else 0) := by
  have hl := (List.getElem?_eq_some_iff.1 hc).1
  unfold usum
  rw [show k + 1 - 1 = (k - 1) + 1 by omega, List.take_add_one, hc, Option.toList_some, keepB_app]
  unfold wsum
  rw [sumF_app, List.length_take, Nat.min_eq_left (by omega), show 1 + (k - 1) = k by omega]
  rw [keepB_cons]
  have e0 : keepB m (k + 1) [] = [] := rfl
  rw [e0]
  split
  · rw [sumF_one]
  · rfl
theorem usum_end {m : Nat → Bool} {r : List CP} : usum m r (r.length + 1) = wsum (keepB m 1 r) := by
  unfold usum; rw [show r.length + 1 - 1 = r.length by omega, List.take_of_length_le (Nat.le_refl _)]
/-! ### Put together -/
def unto (c : CP) : CP := { c with to := 0 }
theorem filt {m : Nat → Bool} : ∀ (r0 r2 : List CP) (i : Nat), i ≠ 0 → (∀ (j : Nat), r2[j]? = (r0[j]?).map fun c => { c with to := if m (i + j) = true then cnt m (i + j) else 0 }) → (∀ c ∈ r0, c.to = 0) → (r2.filter fun c => c.to != 0).map unto = keepB m i r0
  | [], r2, i, _, H, _ => by
    have : r2 = [] := by
      cases r2 with
      | nil => rfl
      | cons c r => have := H 0; simp at this
    subst this; rfl
  | c :: r0, r2, i, hi, H, Z => by
    have h0 := H 0
    rw [Nat.add_zero] at h0
    obtain ⟨d, r2', rfl⟩ : ∃ d r', r2 = d :: r' := by
      cases r2 with
      | nil => simp at h0
      | cons d r => exact ⟨d, r, rfl⟩
    simp only [List.getElem?_cons_zero, Option.map_some, Option.some.injEq] at h0
    have ih := filt (m := m) r0 r2' (i + 1) (by omega) (fun j => by
      have := H (j + 1)
      rw [List.getElem?_cons_succ, List.getElem?_cons_succ] at this
      rw [this, show i + (j + 1) = i + 1 + j by omega]) fun e he => Z e (List.mem_cons_of_mem _ he)
    have hz := Z c List.mem_cons_self
    subst h0
    rw [keepB_cons]
    by_cases hm : m i = true
    · have hne : cnt m i ≠ 0 := fun e => hi (cnt_zero.1 e)
      rw [List.filter_cons_of_pos (by simp [hm, hne]), List.map_cons, ih, show (if m i = true then c :: keepB m (i + 1) r0 else keepB m (i + 1) r0) = c :: keepB m (i + 1) r0 from if_pos hm]
      congr 1
      have e : ∀ d : CP, d.to = 0 → ∀ t, unto { d with to := t } = d := by
        intro d hd t
        cases d
        simp only at hd
        subst hd; rfl
      exact e c hz _
    · rw [List.filter_cons_of_neg (by simp [hm]), ih, if_neg hm]
end Go.Proofs.Ytidkokdkldfglaa

/- The young looked at, plainly. No condition. -/
import Derived.Test.YtidkokdkldfglaaUE
namespace Go.Proofs.Ytidkokdkldfglaa
open Go.Vc
set_option maxRecDepth 100000
set_option linter.unusedSimpArgs false
set_option linter.unusedVariables false

/-- A place where a reference stands. -/
inductive Loc where
  | root (k : Nat)
  | ref (g i : Nat)
  deriving DecidableEq
def getL (s : St) : Loc → Option Nat
  | .root k => s.roots[k]?
  | .ref g i => (s.RS g).bind fun l => l[i]?
def setL (s : St) : Loc → Nat → St
  | .root k, r => { s with roots := s.roots.set k r }
  | .ref g i, r => setR s g (((s.RS g).getD []).set i r)
theorem getL_setL {s : St} {loc : Loc} {x y : Nat} (h : getL s loc = some x) (loc' : Loc) : getL (setL s loc y) loc' = if loc' = loc then some y else getL s loc' := by
  cases loc with
  | root k =>
    simp only [getL] at h
    cases loc' with
    | root k' =>
      simp only [getL, setL, Loc.root.injEq]
      rw [List.getElem?_set]
      by_cases e : k' = k
      · subst e; rw [if_pos rfl, if_pos rfl, if_pos (List.getElem?_eq_some_iff.1 h).1]
      · rw [if_neg (Ne.symm e), if_neg e]
    | ref g i => rw [if_neg (by simp)]; rfl
  | ref g i =>
    simp only [getL] at h
    cases loc' with
    | root k' => rw [if_neg (by simp)]; rfl
    | ref g' i' =>
      simp only [getL, setL, setR, Loc.ref.injEq]
      cases hg : s.RS g with
      | none => rw [hg] at h; cases h
      | some l =>
        rw [hg] at h
        simp only [Option.bind_some] at h
        simp only [Option.getD_some]
        by_cases e : g' = g
        · subst e
          rw [upd_eq]
          simp only [Option.bind_some, true_and]
          rw [List.getElem?_set]
          by_cases e2 : i' = i
          · subst e2; rw [if_pos rfl, if_pos rfl, if_pos (List.getElem?_eq_some_iff.1 h).1]
          · rw [if_neg (Ne.symm e2), if_neg e2, hg]; rfl
        · rw [upd_ne e, if_neg (by simp [e])]
/-- What is at a place in the end: what was there, or where it went. -/
def Fw (s : St) (x x' : Nat) : Prop := x' = x ∨ (2147483648 ≤ x ∧ ∃ c, s.young[x - 2147483648]? = some c ∧ c.to = x' ∧ x' ≠ 0)
structure MInv (s0 s : St) : Prop where
  li : s.limit = s0.limit
  ro : s.room = s0.room
  us : s.used = s0.used
  fr : s.fresh = s0.fresh
  rf : s.refers = s0.refers
  ws : s.WS = s0.WS
  yl : s.young.length = s0.young.length
  yo : ∀ (i : Nat) c, s.young[i]? = some c → ∃ c0, s0.young[i]? = some c0 ∧ c = { c0 with to := c.to }
  yf : ∀ (i : Nat) c, s.young[i]? = some c → c.to ≠ 0 → i ≠ 0 ∧ s0.old.length ≤ c.to ∧ s.old[c.to]? = some { c with to := 0, seen := false }
  yi : ∀ (i j : Nat) c c', s.young[i]? = some c → s.young[j]? = some c' → c.to = c'.to → c.to ≠ 0 → i = j
  ol : s0.old.length ≤ s.old.length
  oo : ∀ (k : Nat) c, s.old[k]? = some c → (k < s0.old.length ∧ ∃ c0, s0.old[k]? = some c0 ∧ c = { c0 with seen := c.seen } ∧ (c.seen = true → c0.seen = true)) ∨
    (s0.old.length ≤ k ∧ ∃ (i : Nat) (ci : CP), s.young[i]? = some ci ∧ ci.to = k ∧ c = { ci with to := 0, seen := false })
  su : ∀ f : CP → Nat, (∀ c t b, f { c with to := t, seen := b } = f c) → sumF f s.old + sumF (fun c => if c.to = 0 then f c else 0) s.young = sumF f s0.old + sumF f s0.young
  ge : ∀ loc x', getL s loc = some x' → ∃ x, getL s0 loc = some x ∧ Fw s x x'
  gd : ∀ loc x, getL s0 loc = some x → ∃ x', getL s loc = some x'
  rn : ∀ g, (s.RS g).map List.length = (s0.RS g).map List.length
  rr : s.roots.length = s0.roots.length
theorem MInv.refl {s : St} (I : Inv s) : MInv s s := by
  have nt : ∀ (i : Nat) c, s.young[i]? = some c → c.to = 0 := fun i c h => by
    have hl := (List.getElem?_eq_some_iff.1 h).1
    have := I.len
    refine I.to (2147483648 + i) c ?_
    unfold look; rw [if_neg (by omega)]; rw [show 2147483648 + i - 2147483648 = i by omega]; exact h
  refine ⟨rfl, rfl, rfl, rfl, rfl, rfl, rfl, fun i c h => ⟨c, h, rfl⟩, fun i c h h0 => absurd (nt i c h) h0, fun i j c c' h _ _ h0 => absurd (nt i c h) h0, Nat.le_refl _,
    fun k c h => .inl ⟨(List.getElem?_eq_some_iff.1 h).1, c, h, rfl, id⟩, fun f hf => ?_, fun loc x h => ⟨x, h, .inl rfl⟩, fun loc x h => ⟨x, h⟩, fun g => rfl, rfl⟩
  congr 1
  have : ∀ l : List CP, (∀ (i : Nat) c, l[i]? = some c → c.to = 0) → sumF (fun c => if c.to = 0 then f c else 0) l = sumF f l := by
    intro l
    induction l with
    | nil => intro _; rfl
    | cons c l ih =>
      intro hl
      have h0 := hl 0 c rfl
      rw [sumF_cons, sumF_cons, ih fun i c' h => hl (i + 1) c' (by simpa using h), if_pos h0]
  exact this _ nt
theorem MInv.bound {s0 s : St} (I : Inv s0) (M : MInv s0 s) : s.old.length ≤ 8194 := by
  have h1 := M.su (fun _ => 1) (fun _ _ _ => rfl)
  have h2 := I.len
  have one : ∀ l : List CP, sumF (fun _ => 1) l = l.length := fun l => by
    induction l with
    | nil => rfl
    | cons c l ih => rw [sumF_cons, ih, List.length_cons]; omega
  rw [one, one, one] at h1
  omega
/-- A young thing goes. -/
def fwdC (s : St) (i : Nat) (c : CP) : St := { s with young := s.young.set i { c with to := s.old.length }, old := s.old ++ [{ c with to := 0, seen := false }] }
def turnP (s : St) (loc : Loc) : St := match getL s loc with
  | none => s
  | some r => if r < 2147483648 then s else match s.young[r - 2147483648]? with
    | none => s
    | some c => if c.to = 0 then setL (fwdC s (r - 2147483648) c) loc s.old.length else setL s loc c.to
theorem set_get {l : List CP} {i : Nat} {c c' : CP} (h : l[i]? = some c) (j : Nat) : (l.set i c')[j]? = if j = i then some c' else l[j]? := by
  rw [List.getElem?_set]
  by_cases e : j = i
  · subst e; rw [if_pos rfl, if_pos rfl, if_pos (List.getElem?_eq_some_iff.1 h).1]
  · rw [if_neg (Ne.symm e), if_neg e]
theorem app_get (l : List CP) (c : CP) (j : Nat) : (l ++ [c])[j]? = if j = l.length then some c else l[j]? := by
  rcases Nat.lt_trichotomy j l.length with h | h | h
  · rw [if_neg (by omega), List.getElem?_append_left h]
  · subst h; rw [if_pos rfl, List.getElem?_append_right (Nat.le_refl _), Nat.sub_self]; rfl
  · rw [if_neg (by omega), List.getElem?_append_right (by omega), List.getElem?_eq_none (by simp; omega), List.getElem?_eq_none (by omega)]
theorem fwd_law {s0 s : St} (I : Inv s0) (M : MInv s0 s) {i : Nat} {c : CP} (hi : s.young[i]? = some c) (h0 : c.to = 0) (hn : i ≠ 0) : MInv s0 (fwdC s i c) := by
  have il := I.len
  have ob := M.bound I
  have ol := M.ol
  have yg := set_get (c' := { c with to := s.old.length }) hi
  have og := app_get s.old { c with to := 0, seen := false }
  have fm : ∀ x x', Fw s x x' → Fw (fwdC s i c) x x' := by
    intro x x' h
    rcases h with h | ⟨h1, c1, h2, h3, h4⟩
    · exact .inl h
    · refine .inr ⟨h1, c1, ?_, h3, h4⟩
      show (s.young.set i _)[x - 2147483648]? = _
      rw [yg]
      by_cases e : x - 2147483648 = i
      · rw [e, hi] at h2; cases h2; exact absurd (h3.symm.trans h0) h4
      · rw [if_neg e]; exact h2
  refine ⟨M.li, M.ro, M.us, M.fr, M.rf, M.ws, by show (s.young.set i _).length = _; rw [List.length_set]; exact M.yl, ?_, ?_, ?_, by show _ ≤ (s.old ++ _).length; rw [List.length_append]; omega, ?_, ?_, ?_, M.gd, M.rn, M.rr⟩
  · intro j d hj0
    have hj : (s.young.set i { c with to := s.old.length })[j]? = some d := hj0
    clear hj0
    rw [yg] at hj
    split at hj
    · next e =>
      subst e; cases hj
      obtain ⟨c0, b1, b2⟩ := M.yo _ c hi
      refine ⟨c0, b1, ?_⟩
      rw [b2]
    · exact M.yo j d hj
  · intro j d hj0 hd
    have hj : (s.young.set i { c with to := s.old.length })[j]? = some d := hj0
    clear hj0
    rw [yg] at hj
    show j ≠ 0 ∧ _ ∧ (s.old ++ [{ c with to := 0, seen := false }])[d.to]? = _
    rw [og]
    split at hj
    · next e =>
      subst e; cases hj
      exact ⟨hn, ol, by rw [if_pos rfl]⟩
    · obtain ⟨b1, b2, b3⟩ := M.yf j d hj hd
      have := (List.getElem?_eq_some_iff.1 b3).1
      exact ⟨b1, b2, by rw [if_neg (by omega)]; exact b3⟩
  · intro j k d e hj hk hde hd
    have hj : (s.young.set i { c with to := s.old.length })[j]? = some d := hj
    have hk : (s.young.set i { c with to := s.old.length })[k]? = some e := hk
    rw [yg] at hj hk
    have lt : ∀ (j : Nat) d, s.young[j]? = some d → d.to ≠ 0 → d.to < s.old.length := fun j d h1 h2 => (List.getElem?_eq_some_iff.1 (M.yf j d h1 h2).2.2).1
    split at hj <;> split at hk
    · next x y => rw [x, y]
    · cases hj
      have := lt k e hk (by rw [← hde]; exact hd)
      simp only at hde
      omega
    · cases hk
      have := lt j d hj hd
      simp only at hde
      omega
    · exact M.yi j k d e hj hk hde hd
  · intro k d hk
    have hk : (s.old ++ [{ c with to := 0, seen := false }])[k]? = some d := hk
    rw [og] at hk
    split at hk
    · next e =>
      cases hk
      refine .inr ⟨by omega, i, { c with to := s.old.length }, ?_, e.symm, rfl⟩
      show (s.young.set i _)[i]? = _
      rw [yg, if_pos rfl]
    · rcases M.oo k d hk with h1 | ⟨h1, j, cj, h2, h3, h4⟩
      · exact .inl h1
      · refine .inr ⟨h1, j, cj, ?_, h3, h4⟩
        show (s.young.set i _)[j]? = _
        rw [yg, if_neg]
        · exact h2
        · intro e; subst e
          rw [hi] at h2; cases h2
          omega
  · intro f hf
    have h1 := M.su f hf
    have h2 := sumF_set (f := fun c => if c.to = 0 then f c else 0) (c' := { c with to := s.old.length }) hi
    show sumF f (s.old ++ _) + sumF _ (s.young.set i _) = _
    rw [sumF_app, sumF_one, hf]
    simp only [h0, if_true] at h2
    rw [if_neg (by omega)] at h2
    omega
  · intro loc x' h
    obtain ⟨x, h1, h2⟩ := M.ge loc x' h
    exact ⟨x, h1, fm x x' h2⟩
theorem setL_law {s0 s : St} (I : Inv s0) (M : MInv s0 s) {loc : Loc} {x y : Nat} {c : CP} (hl : getL s loc = some x) (h31 : 2147483648 ≤ x) (hc : s.young[x - 2147483648]? = some c) (hy : c.to = y) (hy0 : y ≠ 0) : MInv s0 (setL s loc y) := by
  have ob := M.bound I
  have gl := getL_setL (y := y) hl
  have lt : ∀ (j : Nat) d, s.young[j]? = some d → d.to ≠ 0 → d.to < s.old.length := fun j d h1 h2 => (List.getElem?_eq_some_iff.1 (M.yf j d h1 h2).2.2).1
  have ge : ∀ loc' x', (if loc' = loc then some y else getL s loc') = some x' → ∃ x, getL s0 loc' = some x ∧ Fw s x x' := by
    intro loc' x' h
    split at h
    · next e =>
      subst e; cases h
      obtain ⟨x0, h1, h2⟩ := M.ge _ x hl
      refine ⟨x0, h1, ?_⟩
      rcases h2 with h2 | ⟨_, d, h3, h4, h5⟩
      · subst h2; exact .inr ⟨h31, c, hc, hy, hy0⟩
      · have := lt _ d h3 (by omega); omega
    · exact M.ge loc' x' h
  have gd : ∀ loc' x, getL s0 loc' = some x → ∃ x', (if loc' = loc then some y else getL s loc') = some x' := by
    intro loc' z h
    obtain ⟨x', h'⟩ := M.gd loc' z h
    split
    · exact ⟨y, rfl⟩
    · exact ⟨x', h'⟩
  cases loc with
  | root k =>
    exact ⟨M.li, M.ro, M.us, M.fr, M.rf, M.ws, M.yl, M.yo, M.yf, M.yi, M.ol, M.oo, M.su, fun loc' x' h => ge loc' x' (by rw [← gl]; exact h), fun loc' z h => by rw [gl]; exact gd loc' z h, M.rn,
      by show (s.roots.set k y).length = _; rw [List.length_set]; exact M.rr⟩
  | ref g i =>
    refine ⟨M.li, M.ro, M.us, M.fr, M.rf, M.ws, M.yl, M.yo, M.yf, M.yi, M.ol, M.oo, M.su, fun loc' x' h => ge loc' x' (by rw [← gl]; exact h), fun loc' z h => by rw [gl]; exact gd loc' z h, fun g' => ?_, M.rr⟩
    show (upd s.RS g _ g').map _ = _
    by_cases e : g' = g
    · subst e
      simp only [getL] at hl
      rw [upd_eq, ← M.rn]
      cases hg : s.RS g' with
      | none => rw [hg] at hl; cases hl
      | some l => simp
    · rw [upd_ne e]; exact M.rn g'
theorem turn_law {s0 s : St} (I : Inv s0) (M : MInv s0 s) {loc : Loc} {x : Nat} (hl : getL s loc = some x) (hv : x < 2147483648 ∨ valid s0 x) :
    MInv s0 (turnP s loc) ∧ (∃ y, getL (turnP s loc) loc = some y ∧ y < 2147483648) ∧ (∀ loc', loc' ≠ loc → getL (turnP s loc) loc' = getL s loc') ∧ (turnP s loc).old.length ≤ 8194 ∧
    (∀ (k : Nat) c, s.old[k]? = some c → (turnP s loc).old[k]? = some c) := by
  have ob := M.bound I
  suffices hs : MInv s0 (turnP s loc) ∧ (∃ y, getL (turnP s loc) loc = some y ∧ y < 2147483648) ∧ (∀ loc', loc' ≠ loc → getL (turnP s loc) loc' = getL s loc') ∧ (∀ (k : Nat) c, s.old[k]? = some c → (turnP s loc).old[k]? = some c) from
    ⟨hs.1, hs.2.1, hs.2.2.1, hs.1.bound I, hs.2.2.2⟩
  unfold turnP
  rw [hl]
  simp only
  split
  · next h => exact ⟨M, ⟨x, hl, h⟩, fun _ _ => rfl, fun _ _ h => h⟩
  · next h =>
    have hv : valid s0 x := by rcases hv with h1 | h1; · exact absurd h1 h
                               · exact h1
    have hx : x - 2147483648 < s.young.length ∧ 2147483648 < x := by
      rw [M.yl]
      rcases hv with h1 | h1
      · omega
      · exact ⟨h1.2, h1.1⟩
    have hc : s.young[x - 2147483648]? = some s.young[x - 2147483648] := by simp
    rw [hc]
    simp only
    generalize s.young[x - 2147483648] = c at hc
    split
    · next h0 =>
      have M1 := fwd_law I M hc h0 (by omega)
      have hl1 : getL (fwdC s (x - 2147483648) c) loc = some x := by cases loc <;> exact hl
      have hc1 : (fwdC s (x - 2147483648) c).young[x - 2147483648]? = some { c with to := s.old.length } := by
        show (s.young.set _ _)[_]? = _
        rw [set_get hc, if_pos rfl]
      have il := I.len
      have ol := M.ol
      refine ⟨setL_law I M1 hl1 (by omega) hc1 rfl (by omega), ⟨s.old.length, by rw [getL_setL hl1, if_pos rfl], by omega⟩, fun loc' hne => ?_, fun k d hk => ?_⟩
      · rw [getL_setL hl1, if_neg hne]; cases loc' <;> rfl
      · have e : (setL (fwdC s (x - 2147483648) c) loc s.old.length).old = s.old ++ [{ c with to := 0, seen := false }] := by cases loc <;> rfl
        have := (List.getElem?_eq_some_iff.1 hk).1
        rw [e, List.getElem?_append_left this]; exact hk
    · next h0 =>
      have lt := (List.getElem?_eq_some_iff.1 (M.yf _ c hc h0).2.2).1
      refine ⟨setL_law I M hl (by omega) hc rfl h0, ⟨c.to, by rw [getL_setL hl, if_pos rfl], by omega⟩, fun loc' hne => by rw [getL_setL hl, if_neg hne], fun k d hk => ?_⟩
      have e : (setL s loc c.to).old = s.old := by cases loc <;> rfl
      rw [e]; exact hk
/-- One of the old is taken off the list. -/
theorem unsee_law {s0 s : St} (M : MInv s0 s) {k : Nat} {c : CP} (hk : s.old[k]? = some c) (hl : k < s0.old.length) : MInv s0 { s with old := s.old.set k { c with seen := false } } := by
  have og := set_get (c' := { c with seen := false }) hk
  have keep : ∀ j d, s0.old.length ≤ j → s.old[j]? = some d → (s.old.set k { c with seen := false })[j]? = some d := fun j d h1 h2 => by rw [og, if_neg (by omega)]; exact h2
  refine ⟨M.li, M.ro, M.us, M.fr, M.rf, M.ws, M.yl, M.yo, ?_, M.yi, by show _ ≤ (s.old.set k _).length; rw [List.length_set]; exact M.ol, ?_, ?_, M.ge, M.gd, M.rn, M.rr⟩
  · intro i d hi hd
    obtain ⟨b1, b2, b3⟩ := M.yf i d hi hd
    exact ⟨b1, b2, keep _ _ b2 b3⟩
  · intro j d hj0
    have hj : (s.old.set k { c with seen := false })[j]? = some d := hj0
    clear hj0
    rw [og] at hj
    split at hj
    · next e =>
      subst e; cases hj
      rcases M.oo _ c hk with ⟨h1, c0, h2, h3, h4⟩ | ⟨h1, _⟩
      · exact .inl ⟨h1, c0, h2, by rw [h3], fun h => by cases h⟩
      · omega
    · exact M.oo j d hj
  · intro f hf
    have h1 := M.su f hf
    have h2 := sumF_set (f := f) (c' := { c with seen := false }) hk
    have h3 : f { c with seen := false } = f c := hf c c.to false
    show sumF f (s.old.set k { c with seen := false }) + sumF (fun c => if c.to = 0 then f c else 0) s.young = _
    omega
/-- The end. -/
def finM (s : St) (first : Nat) : St := { s with refers := [], used := s.used - s.fresh + wsum (s.old.drop first), fresh := 0, young := [nul] }
theorem fin_law {s0 s : St} {a : AS} (I : Inv s0) (S : Sim s0 a) (M : MInv s0 s) (d1 : ∀ x ∈ s.roots, x < 2147483648) (d2 : ∀ (k : Nat) c, s.old[k]? = some c → ∀ x ∈ rl s c, x < 2147483648)
    (d3 : ∀ (k : Nat) c, s.old[k]? = some c → c.seen = false) : Inv (finM s s0.old.length) ∧ Sim (finM s s0.old.length) a := by
  obtain ⟨R, H⟩ := S
  have il := I.len
  have ob := M.bound I
  have ol := M.ol
  -- what a reference becomes
  let Fin : Nat → Nat → Prop := fun x x' => (x < 2147483648 ∧ x' = x) ∨ (2147483648 ≤ x ∧ ∃ c, s.young[x - 2147483648]? = some c ∧ c.to = x' ∧ x' ≠ 0)
  have fin_of : ∀ x x', Fw s x x' → x' < 2147483648 → Fin x x' := by
    intro x x' h h1
    rcases h with h | h
    · subst h; exact .inl ⟨h1, rfl⟩
    · exact .inr h
  have young_core : ∀ (i : Nat) c, s.young[i]? = some c → ∃ c0, look s0 (2147483648 + i) = some c0 ∧ c.rg = c0.rg ∧ c.rn = c0.rn ∧ c.wg = c0.wg ∧ c.wn = c0.wn := by
    intro i c hi
    obtain ⟨c0, h1, h2⟩ := M.yo i c hi
    refine ⟨c0, ?_, by rw [h2], by rw [h2], by rw [h2], by rw [h2]⟩
    unfold look; rw [if_neg (by omega), show 2147483648 + i - 2147483648 = i by omega]; exact h1
  -- a thing of the old, and whence it comes
  have whence : ∀ (k : Nat) c, s.old[k]? = some c → ∃ r c0, Fin r k ∧ look s0 r = some c0 ∧ c.rg = c0.rg ∧ c.rn = c0.rn ∧ c.wg = c0.wg ∧ c.wn = c0.wn ∧ c.to = 0 ∧ (k ≠ 0 → r ≠ 0 ∧ valid s0 r) := by
    intro k c hk
    have hkl := (List.getElem?_eq_some_iff.1 hk).1
    rcases M.oo k c hk with ⟨h1, c0, h2, h3, _⟩ | ⟨h1, i, ci, h2, h3, h4⟩
    · have lk : look s0 k = some c0 := by unfold look; rw [if_pos (by omega)]; exact h2
      refine ⟨k, c0, .inl ⟨by omega, rfl⟩, lk, by rw [h3], by rw [h3], by rw [h3], by rw [h3], ?_, fun h => ⟨h, .inl ⟨by omega, h1⟩⟩⟩
      rw [h3]; exact I.to k c0 lk
    · obtain ⟨c0, e1, e2, e3, e4, e5⟩ := young_core i ci h2
      have hne : ci.to ≠ 0 := by omega
      have hi0 := (M.yf i ci h2 hne).1
      have hil := (List.getElem?_eq_some_iff.1 h2).1
      rw [M.yl] at hil
      refine ⟨2147483648 + i, c0, .inr ⟨by omega, ci, by rw [show 2147483648 + i - 2147483648 = i by omega]; exact h2, h3, by omega⟩, e1, by rw [h4]; exact e2, by rw [h4]; exact e3, by rw [h4]; exact e4, by rw [h4]; exact e5, by rw [h4],
        fun _ => ⟨by omega, .inr ⟨by omega, by omega⟩⟩⟩
  have fin_inj : ∀ x y z, valid s0 x → valid s0 y → Fin x z → Fin y z → x = y := by
    intro x y z vx vy h1 h2
    rcases h1 with ⟨a1, a2⟩ | ⟨a1, c, a2, a3, a4⟩ <;> rcases h2 with ⟨b1, b2⟩ | ⟨b1, d, b2, b3, b4⟩
    · omega
    · have := (M.yf _ d b2 (by omega)).2.1
      rcases vx with v | v <;> omega
    · have := (M.yf _ c a2 (by omega)).2.1
      rcases vy with v | v <;> omega
    · have := M.yi _ _ c d a2 b2 (by omega) (by omega)
      omega
  have fin_fn : ∀ x y z, Fin x y → Fin x z → y = z := by
    intro x y z h1 h2
    rcases h1 with ⟨a1, a2⟩ | ⟨a1, c, a2, a3, a4⟩ <;> rcases h2 with ⟨b1, b2⟩ | ⟨b1, d, b2, b3, b4⟩
    · omega
    · omega
    · omega
    · rw [a2] at b2; cases b2; omega
  have fin_lt : ∀ x y, valid s0 x → Fin x y → y < s.old.length := by
    intro x y v h
    rcases h with ⟨a1, a2⟩ | ⟨a1, c, a2, a3, a4⟩
    · rcases v with v | v <;> omega
    · have := (List.getElem?_eq_some_iff.1 (M.yf _ c a2 (by omega)).2.2).1
      omega
  have lkf : ∀ k, k < s.old.length → look (finM s s0.old.length) k = s.old[k]? := by
    intro k hk
    unfold look finM; simp only; rw [if_pos (by omega)]
  have vf : ∀ k, k < s.old.length → valid (finM s s0.old.length) k := fun k hk => .inl ⟨by omega, hk⟩
  have vf' : ∀ x, valid (finM s s0.old.length) x → x < s.old.length := by
    intro x hx
    rcases hx with h | h
    · exact h.2
    · have h2 : x - 2147483648 < 1 := h.2
      have h1 := h.1
      omega
  have rlf : ∀ c, rl (finM s s0.old.length) c = rl s c := fun c => rfl
  have wlf : ∀ c, wl (finM s s0.old.length) c = wl s c := fun c => rfl
  -- references of a thing, before and behind
  have refs : ∀ (k : Nat) c r c0, s.old[k]? = some c → look s0 r = some c0 → c.rg = c0.rg → ∀ (i x' : Nat), (rl s c)[i]? = some x' → ∃ x, (rl s0 c0)[i]? = some x ∧ Fin x x' := by
    intro k c r c0 hk hr hg i x' hx
    have hx31 := d2 k c hk x' (List.mem_of_getElem? hx)
    cases hcg : c.rg with
    | none => unfold rl at hx; rw [hcg] at hx; simp at hx
    | some g =>
      have e1 : rl s c = (s.RS g).getD [] := by unfold rl; rw [hcg]; rfl
      have e2 : rl s0 c0 = (s0.RS g).getD [] := by unfold rl; rw [← hg, hcg]; rfl
      rw [e1] at hx; rw [e2]
      cases hs : s.RS g with
      | none => rw [hs] at hx; simp at hx
      | some l =>
        rw [hs] at hx
        simp only [Option.getD_some] at hx
        obtain ⟨x, h1, h2⟩ := M.ge (.ref g i) x' (by simp only [getL, hs, Option.bind_some]; exact hx)
        refine ⟨x, ?_, fin_of x x' h2 hx31⟩
        simp only [getL] at h1
        cases hs0 : s0.RS g with
        | none => rw [hs0] at h1; cases h1
        | some l0 => rw [hs0] at h1; exact h1
  have rlen : ∀ c c0, c.rg = c0.rg → (rl s c).length = (rl s0 c0).length := by
    intro c c0 h
    unfold rl
    rw [h]
    cases c0.rg with
    | none => rfl
    | some g =>
      have := M.rn g
      simp only [Option.bind_some]
      cases h1 : s.RS g <;> cases h2 : s0.RS g <;> rw [h1, h2] at this <;> simp at this ⊢
      exact this
  have has : ∀ (k : Nat) c, k ≠ 0 → s.old[k]? = some c → Has (finM s s0.old.length) c := by
    intro k c h0 hk
    obtain ⟨r, c0, h1, h2, h3, h4, h5, h6, _, h7⟩ := whence k c hk
    obtain ⟨⟨g, l, e1, e2, e3, e4⟩, ⟨g', l', f1, f2, f3⟩⟩ := I.ha r c0 (h7 h0).1 (h7 h0).2 h2
    refine ⟨?_, ⟨g', l', h5.trans f1, by show s.WS g' = _; rw [M.ws]; exact f2, by omega⟩⟩
    have hm := M.rn g
    rw [e2] at hm
    cases hs : s.RS g with
    | none => rw [hs] at hm; cases hm
    | some l1 =>
      rw [hs] at hm
      simp only [Option.map_some, Option.some.injEq] at hm
      refine ⟨g, l1, h3.trans e1, hs, by omega, fun x' hx' => ?_⟩
      obtain ⟨i, hi, rfl⟩ := List.getElem_of_mem hx'
      have hi' : (rl s c)[i]? = some l1[i] := by rw [rl_of (h3.trans e1) hs]; simp
      obtain ⟨x, hx, hF⟩ := refs k c r c0 hk h2 h3 i _ hi'
      rw [rl_of e1 e2] at hx
      exact vf _ (fin_lt x _ (e4 x (List.mem_of_getElem? hx)) hF)
  have hsum := M.su CP.size (fun _ _ _ => rfl)
  have hdrop : wsum (s.old.drop s0.old.length) + wsum s0.old = wsum s.old := by
    have hsplit : wsum s.old = wsum (s.old.take s0.old.length) + wsum (s.old.drop s0.old.length) := by
      unfold wsum; rw [← sumF_app, List.take_append_drop]
    have htake : wsum (s.old.take s0.old.length) = wsum s0.old := by
      unfold wsum sumF
      congr 1
      apply List.ext_getElem?
      intro j
      rw [List.getElem?_map, List.getElem?_map, List.getElem?_take]
      split
      · next hj =>
        have hj2 : j < s.old.length := by omega
        have hj3 : s.old[j]? = some s.old[j] := by simp
        rcases M.oo j _ hj3 with ⟨_, c0, h2, h3, _⟩ | ⟨h1, _⟩
        · rw [hj3, h2]
          simp only [Option.map_some]
          rw [h3]; rfl
        · omega
      · rw [List.getElem?_eq_none (by omega)]
    omega
  have hle : wsum (s.old.drop s0.old.length) ≤ s0.fresh := by
    have hfr := I.fr
    have h0 : 2 ≤ sumF (fun c => if c.to = 0 then CP.size c else 0) s.young := by
      have hy : ∃ c, s.young[0]? = some c := by
        have := M.yl
        exact ⟨s.young[0]'(by omega), by simp⟩
      obtain ⟨c, hc⟩ := hy
      have := sumF_mem (f := fun c => if c.to = 0 then CP.size c else 0) hc
      have ht : c.to = 0 := by
        rcases Nat.eq_zero_or_pos c.to with h | h
        · exact h
        · exact absurd rfl (M.yf 0 c hc (by omega)).1
      simp only [ht, if_true] at this
      have := size_two c
      omega
    unfold wsum at *
    omega
  have hus := I.us
  have hul := I.ul
  have hfr := I.fr
  have nulz : s.old[0]? = some nul := by
    have h0 : s.old[0]? = some (s.old[0]'(by omega)) := by simp
    rcases M.oo 0 _ h0 with ⟨_, c0, h2, h3, _⟩ | ⟨h1, _⟩
    · rw [I.o0] at h2; cases h2
      rw [h0, h3, d3 0 _ h0]; rfl
    · omega
  have looky : ∀ r c, look (finM s s0.old.length) r = some c → (r < 2147483648 ∧ s.old[r]? = some c) ∨ (r = 2147483648 ∧ c = nul) := by
    intro r c h
    unfold look finM at h
    simp only at h
    split at h
    · next e => exact .inl ⟨e, h⟩
    · next e =>
      have hl := (List.getElem?_eq_some_iff.1 h).1
      simp only [List.length_cons, List.length_nil] at hl
      have : r - 2147483648 = 0 := by omega
      rw [this] at h; cases h
      exact .inr ⟨by omega, rfl⟩
  refine ⟨⟨rfl, nulz, by show s.roots.length = 16; rw [M.rr]; exact I.rt, ?_, ?_, ?_, ?_, ?_, ?_, ?_, ?_, (by intro k hk; cases hk), ?_, rfl, ?_, ?_, (by show s.limit ≤ _; rw [M.li]; exact I.ll)⟩, ⟨fun r' t => ∃ r, R r t ∧ Fin r r', ?_⟩⟩
  · intro x' hx'
    have hx' : x' ∈ s.roots := hx'
    obtain ⟨i, hi, rfl⟩ := List.getElem_of_mem hx'
    obtain ⟨x, h1, h2⟩ := M.ge (.root i) s.roots[i] (by simp [getL])
    exact vf _ (fin_lt x _ (I.rv x (List.mem_of_getElem? h1)) (fin_of _ _ h2 (d1 _ hx')))
  · intro r c h0 hv hl
    have hr := vf' r hv
    rw [lkf r hr] at hl
    exact has r c h0 hl
  · intro r c hl
    rcases looky r c hl with ⟨_, h⟩ | ⟨_, rfl⟩
    · obtain ⟨_, _, _, _, _, _, _, _, h8, _⟩ := whence r c h; exact h8
    · rfl
  · intro r r' c c' g h1 h2 h3 h4
    rcases looky r c h1 with ⟨_, h1⟩ | ⟨_, rfl⟩
    · rcases looky r' c' h2 with ⟨_, h2⟩ | ⟨_, rfl⟩
      · obtain ⟨x, c0, b1, b2, b3, _⟩ := whence r c h1
        obtain ⟨x', c0', b1', b2', b3', _⟩ := whence r' c' h2
        have := I.dr x x' c0 c0' g b2 b2' (b3.symm.trans h3) (b3'.symm.trans h4)
        subst this
        exact fin_fn x r r' b1 b1'
      · cases h4
    · cases h3
  · intro r r' c c' g h1 h2 h3 h4
    rcases looky r c h1 with ⟨_, h1⟩ | ⟨_, rfl⟩
    · rcases looky r' c' h2 with ⟨_, h2⟩ | ⟨_, rfl⟩
      · obtain ⟨x, c0, b1, b2, _, _, b3, _⟩ := whence r c h1
        obtain ⟨x', c0', b1', b2', _, _, b3', _⟩ := whence r' c' h2
        have := I.dw x x' c0 c0' g b2 b2' (b3.symm.trans h3) (b3'.symm.trans h4)
        subst this
        exact fin_fn x r r' b1 b1'
      · cases h4
    · cases h3
  · intro k c hk hs
    have := d3 k c hk; rw [hs] at this; cases this
  · intro k c hk
    have hk : [nul][k]? = some c := hk
    cases k with
    | zero => cases hk; rfl
    | succ k => simp at hk
  · intro k c hk x hx h31
    have := d2 k c hk x hx; omega
  · show 0 = sumF seenN s.old
    have : ∀ l : List CP, (∀ c ∈ l, c.seen = false) → sumF seenN l = 0 := by
      intro l
      induction l with
      | nil => intro _; rfl
      | cons c l ih =>
        intro hc
        rw [sumF_cons, ih fun d hd => hc d (List.mem_cons_of_mem _ hd)]
        unfold seenN; rw [hc c List.mem_cons_self]; rfl
    rw [this]
    intro c hc
    obtain ⟨k, hk, rfl⟩ := List.getElem_of_mem hc
    exact d3 k _ (by simp)
  · show s.used - s.fresh + wsum (s.old.drop s0.old.length) + 2 = 0 + wsum s.old
    rw [M.us, M.fr]
    omega
  · show s.used - s.fresh + wsum (s.old.drop s0.old.length) ≤ s.limit
    rw [M.us, M.fr, M.li]
    omega
  · refine ⟨⟨0, H.z, .inl ⟨by decide, rfl⟩⟩, ?_, ?_, ?_, ?_, ?_, by show s.limit = _; rw [M.li]; exact H.li, H.a0⟩
    · rintro r' t ⟨r, h1, h2⟩
      have := H.zz r t h1
      rcases h2 with ⟨a1, a2⟩ | ⟨a1, c, a2, a3, a4⟩
      · subst a2; exact this
      · exact ⟨fun e => absurd e a4, fun e => by have := this.2 e; omega⟩
    · rintro r' t t' ⟨r, h1, h2⟩ ⟨q, h3, h4⟩
      have := fin_inj r q r' (H.valid I h1) (H.valid I h3) h2 h4
      subst this
      exact H.fn r t t' h1 h3
    · rintro r' q' t ⟨r, h1, h2⟩ ⟨q, h3, h4⟩
      have := H.inj r q t h1 h3
      subst this
      exact fin_fn r r' q' h2 h4
    · rintro r' t ⟨r, h1, h2⟩ h0
      have vr := H.valid I h1
      have hr0 : r ≠ 0 := by
        intro e; subst e
        rcases h2 with ⟨a1, a2⟩ | ⟨a1, _⟩ <;> omega
      have hlt := fin_lt r r' vr h2
      obtain ⟨_, c0, th, b1, b2, b3, b4⟩ := H.ok r t h1 hr0
      have hk : s.old[r']? = some s.old[r'] := by simp
      obtain ⟨q, c1, e1, e2, e3, e4, e5, e6, _, e7⟩ := whence r' _ hk
      have hq : q = r := fin_inj q r r' (e7 h0).2 vr e1 h2
      subst hq
      rw [b1] at e2; cases e2
      refine ⟨vf r' hlt, s.old[r'], th, by rw [lkf r' hlt]; exact hk, b2, ?_, ?_⟩
      · rw [wlf, ← b3]
        unfold wl
        rw [e5, M.ws]
      · rw [rlf]
        refine ⟨by rw [rlen _ c0 e3]; exact b4.1, fun i x' y hx hy => ?_⟩
        obtain ⟨x, g1, g2⟩ := refs r' _ q c0 hk b1 e3 i x' hx
        exact ⟨x, b4.2 i x y g1 hy, g2⟩
    · refine ⟨by show s.roots.length = _; rw [M.rr]; exact H.ro.1, fun i x' y hx hy => ?_⟩
      have hx : s.roots[i]? = some x' := hx
      obtain ⟨x, g1, g2⟩ := M.ge (.root i) x' hx
      exact ⟨x, H.ro.2 i x y g1 hy, fin_of x x' g2 (d1 x' (List.mem_of_getElem? hx))⟩
end Go.Proofs.Ytidkokdkldfglaa

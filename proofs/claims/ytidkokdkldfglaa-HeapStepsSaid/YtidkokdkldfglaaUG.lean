/- All looked at, plainly: words that are taken. No condition. -/
import Derived.Test.YtidkokdkldfglaaUF
namespace Go.Proofs.Ytidkokdkldfglaa
open Go.Vc
set_option maxRecDepth 100000
set_option linter.unusedSimpArgs false
set_option linter.unusedVariables false

/-- Things that can be reached. -/
inductive AR (a : AS) : Nat → Prop where
  | root {t : Nat} : t ∈ a.roots → AR a t
  | step {t u : Nat} {th : List Nat × List Nat} : AR a t → a.things[t]? = some th → u ∈ th.1 → AR a u
/-- References that can be reached. -/
inductive PR (s : St) : Nat → Prop where
  | root {r : Nat} : r ∈ s.roots → PR s r
  | step {r x : Nat} {c : CP} : PR s r → r ≠ 0 → look s r = some c → x ∈ rl s c → PR s x
def asz (th : List Nat × List Nat) : Nat := 2 + th.1.length + th.2.length
def aszN (a : AS) (t : Nat) : Nat := asz (a.things.getD t ([], []))
/-- The words of all things that can be reached. -/
def Total (a : AS) (n : Nat) : Prop := ∃ l : List Nat, l.Nodup ∧ (∀ t, t ∈ l ↔ t ≠ 0 ∧ AR a t) ∧ n = (l.map (aszN a)).sum
theorem sum_erase {f : Nat → Nat} : ∀ {l : List Nat} {x : Nat}, x ∈ l → f x + ((l.erase x).map f).sum = (l.map f).sum
  | [], x, h => by cases h
  | y :: l, x, h => by
    by_cases e : y = x
    · subst e; rw [List.erase_cons_head]; simp
    · have hx : x ∈ l := by
        rcases List.mem_cons.1 h with h1 | h1
        · exact absurd h1.symm e
        · exact h1
      rw [List.erase_cons_tail (by simpa using e)]
      have := sum_erase (f := f) hx
      simp only [List.map_cons, List.sum_cons]
      omega
theorem sum_sub {f : Nat → Nat} : ∀ {l m : List Nat}, l.Nodup → (∀ x ∈ l, x ∈ m) → (l.map f).sum ≤ (m.map f).sum
  | [], m, _, _ => by simp
  | x :: l, m, hn, hs => by
    have hx := hs x List.mem_cons_self
    have hn' := List.nodup_cons.1 hn
    have := sum_sub (f := f) (m := m.erase x) hn'.2 fun y hy => by
      have hne : y ≠ x := fun e => hn'.1 (e ▸ hy)
      exact (List.mem_erase_of_ne hne).2 (hs y (List.mem_cons_of_mem _ hy))
    have h2 := sum_erase (f := f) hx
    simp only [List.map_cons, List.sum_cons]
    omega
theorem Total.uniq {a : AS} {n m : Nat} (h1 : Total a n) (h2 : Total a m) : n = m := by
  obtain ⟨l, a1, a2, rfl⟩ := h1
  obtain ⟨k, b1, b2, rfl⟩ := h2
  exact Nat.le_antisymm (sum_sub a1 fun x hx => (b2 x).2 ((a2 x).1 hx)) (sum_sub b1 fun x hx => (a2 x).2 ((b2 x).1 hx))
theorem PR.valid {s : St} (I : Inv s) {r : Nat} (h : PR s r) : Go.Proofs.Ytidkokdkldfglaa.valid s r := by
  induction h with
  | root h => exact I.rv _ h
  | step _ h0 hl hx ih => exact ((I.ha _ _ h0 ih hl).rl).2 _ hx
theorem PR.rel {s : St} {a : AS} {R : Nat → Nat → Prop} (H : SimR s a R) {r : Nat} (h : PR s r) : ∃ t, R r t ∧ AR a t := by
  induction h with
  | root h =>
    obtain ⟨i, hi, rfl⟩ := List.getElem_of_mem h
    obtain ⟨y, h1, h2⟩ := H.ro.get (i := i) (x := s.roots[i]) (by simp)
    exact ⟨y, h2, .root (List.mem_of_getElem? h1)⟩
  | step _ h0 hl hx ih =>
    obtain ⟨t, h1, h2⟩ := ih
    obtain ⟨_, c, th, b1, b2, _, b4⟩ := H.ok _ t h1 h0
    rw [hl] at b1; cases b1
    obtain ⟨i, hi, rfl⟩ := List.getElem_of_mem hx
    obtain ⟨y, h3, h4⟩ := b4.get (i := i) (List.getElem?_eq_getElem hi)
    exact ⟨y, h4, .step h2 b2 (List.mem_of_getElem? h3)⟩
theorem AR.rel {s : St} {a : AS} {R : Nat → Nat → Prop} (H : SimR s a R) {t : Nat} (h : AR a t) : ∃ r, R r t ∧ PR s r := by
  induction h with
  | root h =>
    obtain ⟨i, hi, rfl⟩ := List.getElem_of_mem h
    obtain ⟨y, h1, h2⟩ := H.ro.get' (i := i) (y := a.roots[i]) (by simp)
    exact ⟨y, h2, .root (List.mem_of_getElem? h1)⟩
  | step _ hl hx ih =>
    obtain ⟨r, h1, h2⟩ := ih
    have h0 : r ≠ 0 := by
      intro e
      have := (H.zz r _ h1).1 e
      subst this
      rw [H.a0] at hl; cases hl; cases hx
    obtain ⟨_, c, th, b1, b2, _, b4⟩ := H.ok r _ h1 h0
    rw [hl] at b2; cases b2
    obtain ⟨i, hi, rfl⟩ := List.getElem_of_mem hx
    obtain ⟨y, h3, h4⟩ := b4.get' (i := i) (List.getElem?_eq_getElem hi)
    exact ⟨y, h4, .step h2 h0 b1 (List.mem_of_getElem? h3)⟩
theorem rel_size {s : St} {a : AS} {R : Nat → Nat → Prop} (I : Inv s) (H : SimR s a R) {r t : Nat} {c : CP} (h : R r t) (h0 : r ≠ 0) (hc : look s r = some c) : aszN a t = c.size := by
  obtain ⟨v, c', th, b1, b2, b3, b4⟩ := H.ok r t h h0
  rw [hc] at b1; cases b1
  have hh := I.ha r c h0 v hc
  unfold aszN
  rw [List.getD_eq_getElem?_getD, b2]
  simp only [Option.getD_some, asz, CP.size]
  rw [← b4.1, hh.rl.1, ← b3, hh.wl]
/-- Those of a list that are marked, by number. -/
def keepB (m : Nat → Bool) : Nat → List CP → List CP
  | _, [] => []
  | i, c :: r => if m i = true then c :: keepB m (i + 1) r else keepB m (i + 1) r
theorem keepB_le {m : Nat → Bool} : ∀ (l : List CP) (i : Nat), wsum (keepB m i l) ≤ wsum l
  | [], i => Nat.le_refl _
  | c :: r, i => by
    have := keepB_le (m := m) r (i + 1)
    unfold keepB
    unfold wsum at *
    split <;> simp only [sumF_cons] <;> omega
theorem tally {a : AS} {R : Nat → Nat → Prop} {m : Nat → Bool} {ρ : Nat → Nat} (inj : ∀ r r' t, R r t → R r' t → r = r') (fn : ∀ r t t', R r t → R r t' → t = t') (hρ : ∀ i j, ρ i = ρ j → i = j) :
    ∀ (l : List CP) (i : Nat), (∀ (k : Nat) c, l[k]? = some c → m (i + k) = true → ∃ t, R (ρ (i + k)) t ∧ aszN a t = c.size) →
      ∃ ts : List Nat, ts.Nodup ∧ (∀ t, t ∈ ts ↔ ∃ k, i ≤ k ∧ k < i + l.length ∧ m k = true ∧ R (ρ k) t) ∧ (ts.map (aszN a)).sum = wsum (keepB m i l)
  | [], i, _ => ⟨[], by simp, fun t => ⟨fun h => (by cases h), fun ⟨k, h1, h2, _⟩ => (by simp only [List.length_nil] at h2; omega)⟩, rfl⟩
  | c :: r, i, H => by
    obtain ⟨ts, h1, h2, h3⟩ := tally (m := m) (ρ := ρ) inj fn hρ r (i + 1) fun k d hk hm => by
      have := H (k + 1) d (by simpa using hk) (by rw [show i + (k + 1) = i + 1 + k by omega]; exact hm)
      rw [show i + (k + 1) = i + 1 + k by omega] at this
      exact this
    by_cases e : m i = true
    · obtain ⟨t, ht, hs⟩ := H 0 c rfl e
      rw [Nat.add_zero] at ht
      refine ⟨t :: ts, List.nodup_cons.2 ⟨fun hm => ?_, h1⟩, fun u => ?_, ?_⟩
      · obtain ⟨k, k1, _, _, k4⟩ := (h2 t).1 hm
        have := hρ _ _ (inj _ _ t ht k4)
        omega
      · rw [List.mem_cons]
        constructor
        · rintro (rfl | hu)
          · exact ⟨i, Nat.le_refl _, by simp, e, ht⟩
          · obtain ⟨k, k1, k2, k3, k4⟩ := (h2 u).1 hu
            exact ⟨k, by omega, by simp only [List.length_cons]; omega, k3, k4⟩
        · rintro ⟨k, k1, k2, k3, k4⟩
          by_cases ek : k = i
          · subst ek; exact .inl (fn _ _ _ k4 ht)
          · exact .inr ((h2 u).2 ⟨k, by omega, by simp only [List.length_cons] at k2; omega, k3, k4⟩)
      · unfold keepB
        rw [if_pos e]
        unfold wsum at *
        rw [sumF_cons, ← h3, List.map_cons, List.sum_cons, hs]
    · refine ⟨ts, h1, fun u => ?_, ?_⟩
      · rw [h2]
        constructor
        · rintro ⟨k, k1, k2, k3, k4⟩
          exact ⟨k, by omega, by simp only [List.length_cons]; omega, k3, k4⟩
        · rintro ⟨k, k1, k2, k3, k4⟩
          have : k ≠ i := fun h => e (h ▸ k3)
          exact ⟨k, by omega, by simp only [List.length_cons] at k2; omega, k3, k4⟩
      · unfold keepB
        rw [if_neg e]; exact h3
/-- What can be reached takes no more than is taken. -/
theorem total_le {s : St} {a : AS} (I : Inv s) (S : Sim s a) : ∃ n, Total a n ∧ n ≤ s.used := by
  classical
  obtain ⟨R, H⟩ := S
  have il := I.len
  obtain ⟨co, hco⟩ : ∃ r, s.old = nul :: r := by
    cases hx : s.old with
    | nil => rw [hx] at il; simp at il
    | cons c r => have := I.o0; rw [hx] at this; cases this; exact ⟨r, rfl⟩
  obtain ⟨cy, hcy⟩ : ∃ r, s.young = nul :: r := by
    cases hx : s.young with
    | nil => rw [hx] at il; simp at il
    | cons c r => have := I.y0; rw [hx] at this; cases this; exact ⟨r, rfl⟩
  have lo : ∀ (k : Nat) c, co[k]? = some c → look s (1 + k) = some c := by
    intro k c hk
    have hl := (List.getElem?_eq_some_iff.1 hk).1
    unfold look
    rw [if_pos (by rw [hco, List.length_cons] at il; omega), hco, Nat.add_comm, List.getElem?_cons_succ]; exact hk
  have ly : ∀ (k : Nat) c, cy[k]? = some c → look s (2147483648 + (1 + k)) = some c := by
    intro k c hk
    unfold look
    rw [if_neg (by omega), hcy, show 2147483648 + (1 + k) - 2147483648 = k + 1 by omega, List.getElem?_cons_succ]; exact hk
  obtain ⟨t1, a1, a2, a3⟩ := tally (a := a) (R := R) (m := fun k => decide (PR s k)) (ρ := fun k => k) H.inj H.fn (fun _ _ h => h) co 1 fun k c hk hm => by
    obtain ⟨t, h1, _⟩ := PR.rel H (of_decide_eq_true hm)
    exact ⟨t, h1, rel_size I H h1 (by omega) (lo k c hk)⟩
  obtain ⟨t2, b1, b2, b3⟩ := tally (a := a) (R := R) (m := fun k => decide (PR s (2147483648 + k))) (ρ := fun k => 2147483648 + k) H.inj H.fn (fun _ _ h => by omega) cy 1 fun k c hk hm => by
    obtain ⟨t, h1, _⟩ := PR.rel H (of_decide_eq_true hm)
    exact ⟨t, h1, rel_size I H h1 (by omega) (ly k c hk)⟩
  have hfr := I.fr
  have hus := I.us
  have w1 := keepB_le (m := fun k => decide (PR s k)) co 1
  have w2 := keepB_le (m := fun k => decide (PR s (2147483648 + k))) cy 1
  have w3 : wsum s.old = 2 + wsum co := by rw [hco]; unfold wsum; rw [sumF_cons]; rfl
  have w4 : wsum s.young = 2 + wsum cy := by rw [hcy]; unfold wsum; rw [sumF_cons]; rfl
  refine ⟨_, ⟨t1 ++ t2, ?_, fun t => ?_, rfl⟩, ?_⟩
  · refine List.nodup_append.2 ⟨a1, b1, ?_⟩
    intro x hx y hy e
    subst e
    obtain ⟨k, _, k2, _, k4⟩ := (a2 x).1 hx
    obtain ⟨j, _, _, _, j4⟩ := (b2 x).1 hy
    have := H.inj _ _ x k4 j4
    rw [hco, List.length_cons] at il
    omega
  · rw [List.mem_append, a2, b2]
    constructor
    · rintro (⟨k, k1, k2, k3, k4⟩ | ⟨k, k1, k2, k3, k4⟩)
      · obtain ⟨u, h1, h2⟩ := PR.rel H (of_decide_eq_true k3)
        have := H.fn _ _ _ h1 k4; subst this
        exact ⟨fun e => by have := (H.zz k u k4).2 e; omega, h2⟩
      · obtain ⟨u, h1, h2⟩ := PR.rel H (of_decide_eq_true k3)
        have := H.fn _ _ _ h1 k4; subst this
        exact ⟨fun e => by have := (H.zz _ u k4).2 e; omega, h2⟩
    · rintro ⟨h0, h⟩
      obtain ⟨r, h1, h2⟩ := AR.rel H h
      have hr : r ≠ 0 := fun e => h0 ((H.zz r t h1).1 e)
      have v := h2.valid I
      rcases v with ⟨v1, v2⟩ | ⟨v1, v2⟩
      · exact .inl ⟨r, by omega, by rw [hco, List.length_cons] at v2; omega, decide_eq_true h2, h1⟩
      · refine .inr ⟨r - 2147483648, by omega, by rw [hcy, List.length_cons] at v2; omega, ?_, ?_⟩
        · exact decide_eq_true (by rw [show 2147483648 + (r - 2147483648) = r by omega]; exact h2)
        · rw [show 2147483648 + (r - 2147483648) = r by omega]; exact h1
  · rw [List.map_append, List.sum_append, a3, b3]
    omega
/-! ### All looked at -/
/-- How many of the marked, and the one that is none, stand before. -/
def cnt (m : Nat → Bool) : Nat → Nat
  | 0 => 0
  | k + 1 => cnt m k + (if k = 0 ∨ m k = true then 1 else 0)
structure Maj (s0 s : St) (m : Nat → Bool) : Prop where
  y0 : s0.young = [nul]
  r0 : s0.refers = []
  y : s.young = [nul]
  rf : s.refers = []
  fr : s.fresh = 0
  li : s.limit = s0.limit
  ro : s.room = s0.room
  ws : s.WS = s0.WS
  mm : ∀ k, m k = true ↔ k ≠ 0 ∧ PR s0 k
  old : ∃ r, s0.old = nul :: r ∧ s.old = nul :: keepB m 1 r
  rt : s.roots = s0.roots.map (cnt m)
  rs : ∀ (k : Nat) c g l, s0.old[k]? = some c → m k = true → c.rg = some g → s0.RS g = some l → s.RS g = some (l.map (cnt m))
  us : s.used + 2 = wsum s.old
theorem cnt_mono {m : Nat → Bool} {i j : Nat} (h : i ≤ j) : cnt m i ≤ cnt m j := by
  induction j with
  | zero => have : i = 0 := by omega
            subst this; exact Nat.le_refl _
  | succ j ih =>
    by_cases e : i = j + 1
    · subst e; exact Nat.le_refl _
    · have := ih (by omega)
      have e1 : cnt m (j + 1) = cnt m j + (if j = 0 ∨ m j = true then 1 else 0) := rfl
      omega
theorem cnt_lt {m : Nat → Bool} {i j : Nat} (h : i < j) (hm : i = 0 ∨ m i = true) : cnt m i < cnt m j := by
  have h1 : cnt m (i + 1) = cnt m i + 1 := by
    have e1 : cnt m (i + 1) = cnt m i + (if i = 0 ∨ m i = true then 1 else 0) := rfl
    rw [e1, if_pos hm]
  have := cnt_mono (m := m) (i := i + 1) (j := j) h
  omega
theorem cnt_inj {m : Nat → Bool} {i j : Nat} (hi : i = 0 ∨ m i = true) (hj : j = 0 ∨ m j = true) (h : cnt m i = cnt m j) : i = j := by
  rcases Nat.lt_trichotomy i j with c | c | c
  · have := cnt_lt c hi; omega
  · exact c
  · have := cnt_lt c hj; omega
theorem cnt_zero {m : Nat → Bool} {i : Nat} : cnt m i = 0 ↔ i = 0 := by
  constructor
  · intro h
    rcases Nat.eq_zero_or_pos i with e | e
    · exact e
    · have := cnt_lt (m := m) e (.inl rfl)
      omega
  · intro h; subst h; rfl
theorem keepB_get {m : Nat → Bool} : ∀ (l : List CP) (i k : Nat) (c : CP), i ≠ 0 → l[k]? = some c → m (i + k) = true → (keepB m i l)[cnt m (i + k) - cnt m i]? = some c
  | [], i, k, c, _, h, _ => by simp at h
  | d :: r, i, 0, c, hi, h, hm => by
    simp only [List.getElem?_cons_zero, Option.some.injEq] at h
    subst h
    rw [Nat.add_zero] at hm ⊢
    unfold keepB
    rw [if_pos hm, Nat.sub_self]; rfl
  | d :: r, i, k + 1, c, hi, h, hm => by
    rw [List.getElem?_cons_succ] at h
    have e : i + (k + 1) = i + 1 + k := by omega
    rw [e] at hm ⊢
    have ih := keepB_get r (i + 1) k c (by omega) h hm
    have m1 := cnt_mono (m := m) (i := i + 1) (j := i + 1 + k) (by omega)
    have m2 : cnt m (i + 1) = cnt m i + (if i = 0 ∨ m i = true then 1 else 0) := rfl
    unfold keepB
    split
    · next h1 =>
      rw [if_pos (.inr h1)] at m2
      rw [show cnt m (i + 1 + k) - cnt m i = (cnt m (i + 1 + k) - cnt m (i + 1)) + 1 by omega, List.getElem?_cons_succ]
      exact ih
    · next h1 =>
      rw [if_neg (by simp [hi, h1])] at m2
      rw [show cnt m (i + 1 + k) - cnt m i = cnt m (i + 1 + k) - cnt m (i + 1) by omega]
      exact ih
theorem keepB_inv {m : Nat → Bool} : ∀ (l : List CP) (i j : Nat) (c : CP), i ≠ 0 → (keepB m i l)[j]? = some c → ∃ k, l[k]? = some c ∧ m (i + k) = true ∧ cnt m (i + k) = cnt m i + j
  | [], i, j, c, _, h => by simp [keepB] at h
  | d :: r, i, j, c, hi, h => by
    unfold keepB at h
    have m2 : cnt m (i + 1) = cnt m i + (if i = 0 ∨ m i = true then 1 else 0) := rfl
    split at h
    · next h1 =>
      rw [if_pos (.inr h1)] at m2
      cases j with
      | zero => cases h; exact ⟨0, rfl, h1, rfl⟩
      | succ j =>
        rw [List.getElem?_cons_succ] at h
        obtain ⟨k, k1, k2, k3⟩ := keepB_inv r (i + 1) j c (by omega) h
        exact ⟨k + 1, by simpa using k1, by rw [show i + (k + 1) = i + 1 + k by omega]; exact k2, by rw [show i + (k + 1) = i + 1 + k by omega, k3]; omega⟩
    · next h1 =>
      rw [if_neg (by simp [hi, h1])] at m2
      obtain ⟨k, k1, k2, k3⟩ := keepB_inv r (i + 1) j c (by omega) h
      exact ⟨k + 1, by simpa using k1, by rw [show i + (k + 1) = i + 1 + k by omega]; exact k2, by rw [show i + (k + 1) = i + 1 + k by omega, k3]; omega⟩
theorem maj_law {s0 s : St} {a : AS} {m : Nat → Bool} (I : Inv s0) (S : Sim s0 a) (M : Maj s0 s m) : Inv s ∧ Sim s a ∧ Total a s.used := by
  obtain ⟨R, H⟩ := S
  obtain ⟨r, ho, hn⟩ := M.old
  have il := I.len
  have hl1 : s0.old.length = r.length + 1 := by rw [ho]; rfl
  have c1 : cnt m 1 = 1 := rfl
  -- all references lie in the old
  have vold : ∀ x, valid s0 x → x < s0.old.length ∧ x < 2147483648 := by
    intro x hx
    rcases hx with h | h
    · exact ⟨h.2, h.1⟩
    · have := h.2; rw [M.y0] at this; simp at this; have := h.1; omega
  have lk0 : ∀ k, k < s0.old.length → look s0 k = s0.old[k]? := fun k hk => by unfold look; rw [if_pos (by omega)]
  have ml : ∀ k, m k = true → k ≠ 0 ∧ k < s0.old.length := fun k hk => by
    have := (M.mm k).1 hk
    exact ⟨this.1, (vold k (this.2.valid I)).1⟩
  -- whence
  have from_ : ∀ (j : Nat) c, s.old[j]? = some c → (j = 0 ∧ c = nul) ∨ ∃ k, m k = true ∧ k ≠ 0 ∧ s0.old[k]? = some c ∧ cnt m k = j := by
    intro j c hj
    rw [hn] at hj
    cases j with
    | zero => cases hj; exact .inl ⟨rfl, rfl⟩
    | succ j =>
      rw [List.getElem?_cons_succ] at hj
      obtain ⟨k, k1, k2, k3⟩ := keepB_inv r 1 j c (by decide) hj
      refine .inr ⟨1 + k, k2, by omega, ?_, by omega⟩
      rw [ho, Nat.add_comm, List.getElem?_cons_succ]; exact k1
  have into_ : ∀ (k : Nat) c, s0.old[k]? = some c → m k = true → s.old[cnt m k]? = some c := by
    intro k c hk hm
    have hk0 := (ml k hm).1
    obtain ⟨k', rfl⟩ : ∃ k', k = k' + 1 := ⟨k - 1, by omega⟩
    rw [ho, List.getElem?_cons_succ] at hk
    have := keepB_get r 1 k' c (by decide) hk (by rw [Nat.add_comm]; exact hm)
    rw [Nat.add_comm 1 k', c1] at this
    have pos : 0 < cnt m (k' + 1) := by
      rcases Nat.eq_zero_or_pos (cnt m (k' + 1)) with e | e
      · have := cnt_zero.1 e; omega
      · exact e
    rw [hn, show cnt m (k' + 1) = (cnt m (k' + 1) - 1) + 1 by omega, List.getElem?_cons_succ]
    exact this
  have vnew : ∀ k, (k = 0 ∨ m k = true) → valid s (cnt m k) := by
    intro k hk
    have hb : s.old.length ≤ s0.old.length := by
      rw [hn, hl1, List.length_cons]
      have : ∀ (l : List CP) i, (keepB m i l).length ≤ l.length := by
        intro l
        induction l with
        | nil => intro i; exact Nat.le_refl _
        | cons c l ih => intro i; have := ih (i + 1); unfold keepB; split <;> simp only [List.length_cons] <;> omega
      have := this r 1
      omega
    have hlt : cnt m k < s.old.length := by
      rcases hk with rfl | hk
      · rw [hn]; simp [cnt]
      · have hkl := (ml k hk).2
        have hc : s0.old[k]? = some s0.old[k] := by simp
        exact (List.getElem?_eq_some_iff.1 (into_ k _ hc hk)).1
    exact .inl ⟨by omega, hlt⟩
  have lkn : ∀ j c, look s j = some c → (j < 2147483648 ∧ s.old[j]? = some c) ∨ (j = 2147483648 ∧ c = nul) := by
    intro j c h
    unfold look at h
    split at h
    · next e => exact .inl ⟨e, h⟩
    · next e =>
      rw [M.y] at h
      have hl := (List.getElem?_eq_some_iff.1 h).1
      simp only [List.length_cons, List.length_nil] at hl
      have : j - 2147483648 = 0 := by omega
      rw [this] at h; cases h
      exact .inr ⟨by omega, rfl⟩
  -- references of a marked thing are marked
  have child : ∀ (k : Nat) c, s0.old[k]? = some c → m k = true → ∀ x ∈ rl s0 c, x = 0 ∨ m x = true := by
    intro k c hk hm x hx
    by_cases e : x = 0
    · exact .inl e
    · have h1 := (M.mm k).1 hm
      exact .inr ((M.mm x).2 ⟨e, .step h1.2 h1.1 (by rw [lk0 k (ml k hm).2]; exact hk) hx⟩)
  have rln : ∀ (k : Nat) c, s0.old[k]? = some c → m k = true → rl s c = (rl s0 c).map (cnt m) := by
    intro k c hk hm
    have hkl := ml k hm
    obtain ⟨⟨g, l, e1, e2, _⟩, _⟩ := I.ha k c hkl.1 (.inl ⟨by omega, hkl.2⟩) (by rw [lk0 k hkl.2]; exact hk)
    rw [rl_of e1 e2]
    exact rl_of e1 (M.rs k c g l hk hm e1 e2)
  have wln : ∀ c, wl s c = wl s0 c := fun c => by unfold wl; rw [M.ws]
  have has : ∀ (k : Nat) c, s0.old[k]? = some c → m k = true → Has s c := by
    intro k c hk hm
    have hkl := ml k hm
    obtain ⟨⟨g, l, e1, e2, e3, e4⟩, ⟨g', l', f1, f2, f3⟩⟩ := I.ha k c hkl.1 (.inl ⟨by omega, hkl.2⟩) (by rw [lk0 k hkl.2]; exact hk)
    refine ⟨⟨g, l.map (cnt m), e1, M.rs k c g l hk hm e1 e2, by simpa using e3, fun x hx => ?_⟩, ⟨g', l', f1, by rw [M.ws]; exact f2, f3⟩⟩
    obtain ⟨y, hy, rfl⟩ := List.mem_map.1 hx
    exact vnew y (child k c hk hm y (by rw [rl_of e1 e2]; exact hy))
  have rootm : ∀ x ∈ s0.roots, x = 0 ∨ m x = true := by
    intro x hx
    by_cases e : x = 0
    · exact .inl e
    · exact .inr ((M.mm x).2 ⟨e, .root hx⟩)
  have lkm : ∀ k, m k = true → ∃ c, s0.old[k]? = some c := fun k hm => ⟨s0.old[k]'(ml k hm).2, by simp⟩
  have wle : wsum s.old ≤ wsum s0.old := by
    have := keepB_le (m := m) r 1
    rw [hn, ho]
    unfold wsum at *
    rw [sumF_cons, sumF_cons]; omega
  have hus0 := I.us
  have hus := M.us
  have hul := I.ul
  have hfr : s0.fresh = 0 := by have := I.fr; rw [M.y0] at this; have h2 : wsum [nul] = 2 := rfl; omega
  -- marked references, each once, are taken to things
  have fin0 : ∀ k t, R k t → (k = 0 ∨ m k = true) → (t = 0 ↔ cnt m k = 0) := fun k t h hm => by rw [cnt_zero, ← H.zz k t h]
  refine ⟨⟨by rw [M.y]; rfl, by rw [hn]; rfl, by rw [M.rt, List.length_map]; exact I.rt, ?_, ?_, ?_, ?_, ?_, ?_, ?_, ?_, (by rw [M.rf]; intro k hk; cases hk), ?_, (by rw [M.fr, M.y]; rfl), (by rw [M.fr]; omega), (by rw [M.li]; omega), (by rw [M.li]; exact I.ll)⟩,
    ⟨fun j t => ∃ k, (k = 0 ∨ m k = true) ∧ R k t ∧ cnt m k = j, ?_⟩, ?_⟩
  · intro x hx
    rw [M.rt] at hx
    obtain ⟨y, hy, rfl⟩ := List.mem_map.1 hx
    exact vnew y (rootm y hy)
  · intro j c h0 hv hl
    rcases lkn j c hl with ⟨_, hj⟩ | ⟨rfl, _⟩
    · rcases from_ j c hj with ⟨e, _⟩ | ⟨k, k1, k2, k3, k4⟩
      · exact absurd e h0
      · exact has k c k3 k1
    · rcases hv with h | h <;> omega
  · intro j c hl
    rcases lkn j c hl with ⟨_, hj⟩ | ⟨_, rfl⟩
    · rcases from_ j c hj with ⟨_, rfl⟩ | ⟨k, k1, k2, k3, k4⟩
      · rfl
      · exact I.to k c (by rw [lk0 k (ml k k1).2]; exact k3)
    · rfl
  · intro j j' c c' g h1 h2 h3 h4
    rcases lkn j c h1 with ⟨_, h1⟩ | ⟨_, rfl⟩
    · rcases lkn j' c' h2 with ⟨_, h2⟩ | ⟨_, rfl⟩
      · rcases from_ j c h1 with ⟨_, rfl⟩ | ⟨k, k1, k2, k3, k4⟩
        · cases h3
        · rcases from_ j' c' h2 with ⟨_, rfl⟩ | ⟨k', k1', k2', k3', k4'⟩
          · cases h4
          · have := I.dr k k' c c' g (by rw [lk0 k (ml k k1).2]; exact k3) (by rw [lk0 k' (ml k' k1').2]; exact k3') h3 h4
            subst this; omega
      · cases h4
    · cases h3
  · intro j j' c c' g h1 h2 h3 h4
    rcases lkn j c h1 with ⟨_, h1⟩ | ⟨_, rfl⟩
    · rcases lkn j' c' h2 with ⟨_, h2⟩ | ⟨_, rfl⟩
      · rcases from_ j c h1 with ⟨_, rfl⟩ | ⟨k, k1, k2, k3, k4⟩
        · cases h3
        · rcases from_ j' c' h2 with ⟨_, rfl⟩ | ⟨k', k1', k2', k3', k4'⟩
          · cases h4
          · have := I.dw k k' c c' g (by rw [lk0 k (ml k k1).2]; exact k3) (by rw [lk0 k' (ml k' k1').2]; exact k3') h3 h4
            subst this; omega
      · cases h4
    · cases h3
  · intro j c hj hs
    rcases from_ j c hj with ⟨_, rfl⟩ | ⟨k, k1, k2, k3, k4⟩
    · cases hs
    · have := I.sn k c k3 hs
      rw [M.r0] at this; cases this
  · intro j c hj
    rw [M.y] at hj
    cases j with
    | zero => cases hj; rfl
    | succ j => simp at hj
  · intro j c hj x hx h31
    rcases from_ j c hj with ⟨_, rfl⟩ | ⟨k, k1, k2, k3, k4⟩
    · simp [rl, nul] at hx
    · rw [rln k c k3 k1] at hx
      obtain ⟨y, hy, rfl⟩ := List.mem_map.1 hx
      have v := vnew y (child k c k3 k1 y hy)
      rcases v with v | v
      · omega
      · have := v.2; rw [M.y] at this; simp at this; omega
  · rw [M.rf]
    show 0 = _
    have : ∀ l : List CP, (∀ c ∈ l, c.seen = false) → sumF seenN l = 0 := by
      intro l
      induction l with
      | nil => intro _; rfl
      | cons c l ih =>
        intro hc
        rw [sumF_cons, ih fun d hd => hc d (List.mem_cons_of_mem _ hd)]
        unfold seenN; rw [hc c List.mem_cons_self]; rfl
    rw [this]
    intro c hc
    obtain ⟨j, hj, rfl⟩ := List.getElem_of_mem hc
    rcases from_ j s.old[j] (by simp) with ⟨_, e⟩ | ⟨k, k1, k2, k3, k4⟩
    · rw [e]; rfl
    · cases hs : s.old[j].seen with
      | false => rfl
      | true =>
        have := I.sn k _ k3 hs
        rw [M.r0] at this; cases this
  · refine ⟨⟨0, .inl rfl, H.z, rfl⟩, ?_, ?_, ?_, ?_, ?_, by rw [M.li]; exact H.li, H.a0⟩
    · rintro j t ⟨k, k1, k2, rfl⟩
      exact (fin0 k t k2 k1).symm
    · rintro j t t' ⟨k, k1, k2, rfl⟩ ⟨k', k1', k2', k3'⟩
      have := cnt_inj k1' k1 k3'
      subst this
      exact H.fn _ t t' k2 k2'
    · rintro j j' t ⟨k, k1, k2, rfl⟩ ⟨k', k1', k2', rfl⟩
      have := H.inj k k' t k2 k2'
      subst this; rfl
    · rintro j t ⟨k, k1, k2, rfl⟩ h0
      have hk0 : k ≠ 0 := fun e => h0 (cnt_zero.2 e)
      have hm : m k = true := by
        rcases k1 with e | e
        · exact absurd e hk0
        · exact e
      obtain ⟨_, c, th, b1, b2, b3, b4⟩ := H.ok k t k2 hk0
      have hkl := ml k hm
      rw [lk0 k hkl.2] at b1
      have v := vnew k (.inr hm)
      refine ⟨v, c, th, ?_, b2, by rw [wln]; exact b3, ?_⟩
      · unfold look
        have : cnt m k < 2147483648 := by
          rcases v with v | v
          · exact v.1
          · have := v.2; rw [M.y] at this; simp at this; omega
        rw [if_pos this]; exact into_ k c b1 hm
      · rw [rln k c b1 hm]
        refine ⟨by rw [List.length_map]; exact b4.1, fun i x y hx hy => ?_⟩
        rw [List.getElem?_map] at hx
        cases hz : (rl s0 c)[i]? with
        | none => rw [hz] at hx; cases hx
        | some z =>
          rw [hz] at hx; cases hx
          exact ⟨z, child k c b1 hm z (List.mem_of_getElem? hz), b4.2 i z y hz hy, rfl⟩
    · refine ⟨by rw [M.rt, List.length_map]; exact H.ro.1, fun i x y hx hy => ?_⟩
      rw [M.rt, List.getElem?_map] at hx
      cases hz : s0.roots[i]? with
      | none => rw [hz] at hx; cases hx
      | some z =>
        rw [hz] at hx; cases hx
        exact ⟨z, rootm z (List.mem_of_getElem? hz), H.ro.2 i z y hz hy, rfl⟩
  · obtain ⟨ts, a1, a2, a3⟩ := tally (a := a) (R := R) (m := m) (ρ := fun k => k) H.inj H.fn (fun _ _ h => h) r 1 fun k c hk hm => by
      obtain ⟨t, h1, _⟩ := PR.rel H ((M.mm _).1 hm).2
      have hk' : s0.old[1 + k]? = some c := by rw [ho, Nat.add_comm, List.getElem?_cons_succ]; exact hk
      exact ⟨t, h1, rel_size I H h1 (by omega) (by rw [lk0 _ (ml _ hm).2]; exact hk')⟩
    refine ⟨ts, a1, fun t => ?_, ?_⟩
    · rw [a2]
      constructor
      · rintro ⟨k, k1, k2, k3, k4⟩
        obtain ⟨u, h1, h2⟩ := PR.rel H ((M.mm k).1 k3).2
        have := H.fn _ _ _ h1 k4; subst this
        exact ⟨fun e => by have := (H.zz k u k4).2 e; omega, h2⟩
      · rintro ⟨h0, h⟩
        obtain ⟨q, h1, h2⟩ := AR.rel H h
        have hq : q ≠ 0 := fun e => h0 ((H.zz q t h1).1 e)
        have hm := (M.mm q).2 ⟨hq, h2⟩
        have := (ml q hm).2
        exact ⟨q, by omega, by omega, hm, h1⟩
    · rw [a3]
      have : wsum s.old = 2 + wsum (keepB m 1 r) := by rw [hn]; unfold wsum; rw [sumF_cons]; rfl
      omega
end Go.Proofs.Ytidkokdkldfglaa

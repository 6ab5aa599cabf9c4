/- What is read is written as it was: in plain Lean. -/
import Derived.Test.YtohkbpnblkkdgaaR5
namespace Go.Proofs.Ytohkbpnblkkdgaa
open Go.Vc
set_option maxRecDepth 100000
set_option linter.unusedSimpArgs false
set_option linter.unusedVariables false

theorem bigS_mod (a y : Nat) : ∀ (n : Nat), bigS (a * 256 ^ n + y) n = bigS y n := by
  intro n
  unfold bigS
  apply List.map_congr_left
  intro k hk
  have hk := List.mem_range.1 hk
  congr 1
  have h1 : 256 ^ n = 256 ^ (k + 1) * 256 ^ (n - 1 - k) := by rw [← Nat.pow_add]; congr 1; omega
  rw [h1, ← Nat.mul_assoc, Nat.mul_comm (a * 256 ^ (k + 1)), Nat.mul_add_div (Nat.pow_pos (by decide)), Nat.pow_succ, ← Nat.mul_assoc]
  omega
theorem big_num : ∀ (bs : List UInt8), bigS (numB bs) bs.length = bs := by
  intro bs
  induction bs with
  | nil => rfl
  | cons b r ih =>
    have h1 : numB (b :: r) = b.toNat * 256 ^ r.length + numB r := by
      have := numB_app [b] r
      simpa [numB] using this
    have h2 := numB_lt r
    have hb := UInt8.toNat_lt b
    simp only [Nat.reducePow] at hb
    rw [List.length_cons, bigS_succ, h1, bigS_mod, ih]
    congr 1
    have h3 : (b.toNat * 256 ^ r.length + numB r) / 256 ^ r.length = b.toNat := by
      rw [Nat.mul_comm, Nat.mul_add_div (Nat.pow_pos (by decide)), Nat.div_eq_of_lt h2, Nat.add_zero]
    rw [h3, Nat.mod_eq_of_lt hb]
    exact UInt8.ofNat_toNat
theorem big_num' {bs : List UInt8} {z : Nat} (h : bs.length = z) : bigS (numB bs) z = bs := h ▸ big_num bs

section
variable {l l' : List UInt8} {p q r : Nat}
theorem take_le (h : l'.take q = l.take q) (hr : r ≤ q) : l'.take r = l.take r := by
  have : ∀ m : List UInt8, m.take r = (m.take q).take r := fun m => by rw [List.take_take, Nat.min_eq_left hr]
  rw [this l', this l, h]
theorem getD_of_take (h : l'.take q = l.take q) (hp : p < q) : l'.getD p 0 = l.getD p 0 := by
  have : ∀ m : List UInt8, m.getD p 0 = (m.take q).getD p 0 := fun m => by
    simp only [List.getD_eq_getElem?_getD, List.getElem?_take, if_pos hp]
  rw [this l', this l, h]
theorem take_cut (h1 : p ≤ q) : l.take q = l.take p ++ (l.take q).drop p := by
  conv => lhs; rw [← List.take_append_drop p (l.take q), List.take_take, Nat.min_eq_left h1]
theorem take_one (h : p < l.length) : l.take (p + 1) = l.take p ++ [l.getD p 0] := by
  rw [List.take_succ_eq_append_getElem h]; simp [h]
end

/-- One constant that was read, written. -/
theorem one_back {l : List UInt8} {p : Nat} {c : Cst} {p' : Nat} (h : refOne l p = .inr (c, p')) :
    c.Fit ∧ c.text.length ≤ 65535 ∧ errS false c = 0 ∧ p < p' ∧ p' ≤ l.length ∧ l.take p' = l.take p ++ oneS c ∧ ∀ l' : List UInt8, l'.take p' = l.take p' → p' ≤ l'.length → refOne l' p = .inr (c, p') := by
  have hpl : ¬ l.length ≤ p := fun hn => by unfold refOne at h; simp only [if_pos hn] at h; cases h
  have ht : (l.getD p 0).toNat < 256 := by have := UInt8.toNat_lt (l.getD p 0); simpa using this
  have hof : UInt8.ofNat (l.getD p 0).toNat = l.getD p 0 := UInt8.ofNat_toNat
  have hloc : ∀ l' : List UInt8, l'.take p' = l.take p' → p' ≤ l'.length → p < p' → (l'.getD p 0).toNat = (l.getD p 0).toNat ∧ (∀ a b, a ≤ p' → (l'.take a).drop b = (l.take a).drop b) ∧ ¬ l'.length ≤ p := by
    intro l' h1 h2 h3
    exact ⟨by rw [getD_of_take h1 h3], fun a b ha => by rw [take_le h1 ha], by omega⟩
  have h1t := take_one (l := l) (p := p) (by omega)
  have hun := h
  unfold refOne at hun
  simp only [if_neg hpl] at hun
  have hgo : ∀ l' : List UInt8, l'.take p' = l.take p' → p' ≤ l'.length → p < p' → refOne l' p = (
      let t := (l.getD p 0).toNat
      let z := (sizeS t).toNat
      let b := (l'.take (p + 1 + z)).drop (p + 1)
      if sizeS t < 0 then .inl (5, p)
      else if l'.length < p + 1 + z then .inl (1, l'.length)
      else if t = 1 then
        (if l'.length < p + 1 + z + numB b then .inl (1, l'.length)
         else if unitsS ((l'.take (p + 1 + z + numB b)).drop (p + 1 + z)) = none then .inl (6, p)
         else .inr (⟨1, (l'.take (p + 1 + z + numB b)).drop (p + 1 + z), 0, 0, 0⟩, p + 1 + z + numB b))
      else if t = 3 ∨ t = 4 ∨ t = 5 ∨ t = 6 then .inr (⟨t, [], numB b, 0, 0⟩, p + 1 + z)
      else if t = 7 ∨ t = 8 then .inr (⟨t, [], 0, numB b, 0⟩, p + 1 + z)
      else .inr (⟨t, [], 0, numB (b.take 2), numB (b.drop 2)⟩, p + 1 + z)) := by
    intro l' h1 h2 h3
    obtain ⟨g1, _, g3⟩ := hloc l' h1 h2 h3
    unfold refOne
    simp only [if_neg g3, g1]
  generalize (l.getD p 0).toNat = t at *
  have hsz : ¬ sizeS t < 0 := fun hn => by rw [if_pos hn] at hun; cases hun
  rw [if_neg hsz] at hun
  have hz : ¬ l.length < p + 1 + (sizeS t).toNat := fun hn => by rw [if_pos hn] at hun; cases hun
  rw [if_neg hz] at hun
  have hbl : ((l.take (p + 1 + (sizeS t).toNat)).drop (p + 1)).length = (sizeS t).toNat := by simp; omega
  have hcut := take_cut (l := l) (p := p + 1) (q := p + 1 + (sizeS t).toNat) (by omega)
  rw [h1t] at hcut
  by_cases t1 : t = 1
  · subst t1
    rw [if_pos rfl] at hun
    rw [show (sizeS 1).toNat = 2 from rfl] at *
    have hk := numB_lt ((l.take (p + 1 + 2)).drop (p + 1))
    rw [hbl] at hk
    have hbig := big_num' hbl
    obtain ⟨m, hm⟩ : ∃ m, numB ((l.take (p + 1 + 2)).drop (p + 1)) = m := ⟨_, rfl⟩
    rw [hm] at hun hk hbig
    have h3 : ¬ l.length < p + 1 + 2 + m := fun hn => by rw [if_pos hn] at hun; cases hun
    rw [if_neg h3] at hun
    cases hu : unitsS ((l.take (p + 1 + 2 + m)).drop (p + 1 + 2)) with
    | none => rw [if_pos hu] at hun; cases hun
    | some us =>
      rw [if_neg (by rw [hu]; simp)] at hun
      cases hun
      have htl : ((l.take (p + 1 + 2 + m)).drop (p + 1 + 2)).length = m := by simp; omega
      have hcut2 := take_cut (l := l) (p := p + 1 + 2) (q := p + 1 + 2 + m) (by omega)
      refine ⟨⟨by simp only; omega, by simp only; omega, by simp only; omega, by simp only; omega⟩, by simp only; omega, ?_, by omega, by omega, ?_, ?_⟩
      · have : ¬ 65535 < m := by omega
        simp [errS, hu, htl, this]
      · refine hcut2.trans ?_
        rw [hcut]
        simp only [oneS, bodyS, htl, hbig, Nat.reduceEqDiff, if_false, if_true, hof]
        rw [List.append_assoc, List.append_assoc]; rfl
      · intro l' g1 g2
        rw [hgo l' g1 g2 (by omega)]
        have g3 := (hloc l' g1 g2 (by omega)).2.1
        simp only [show (sizeS 1).toNat = 2 from rfl]
        rw [if_neg hsz, if_neg (by omega), if_pos trivial, g3 _ _ (by omega), hm, if_neg (by omega), g3 _ _ (by omega), if_neg (by rw [hu]; simp)]
  rw [if_neg t1] at hun
  by_cases t36 : t = 3 ∨ t = 4 ∨ t = 5 ∨ t = 6
  · rw [if_pos t36] at hun
    cases hun
    have hbig := big_num' hbl
    have hk := numB_lt ((l.take (p + 1 + (sizeS t).toNat)).drop (p + 1))
    rw [hbl] at hk
    have hloc2 : ∀ l' : List UInt8, l'.take (p + 1 + (sizeS t).toNat) = l.take (p + 1 + (sizeS t).toNat) → p + 1 + (sizeS t).toNat ≤ l'.length → refOne l' p = .inr (⟨t, [], numB ((l.take (p + 1 + (sizeS t).toNat)).drop (p + 1)), 0, 0⟩, p + 1 + (sizeS t).toNat) := by
      intro l' g1 g2
      rw [hgo l' g1 g2 (by omega)]
      have g3 := (hloc l' g1 g2 (by omega)).2.1
      simp only [if_neg hsz, if_neg t1, if_pos t36]
      rw [if_neg (by omega), g3 _ _ (by omega)]
    rcases t36 with rfl | rfl | rfl | rfl
    all_goals
      first
      | rw [show (sizeS 3).toNat = 4 from rfl] at *
      | rw [show (sizeS 4).toNat = 4 from rfl] at *
      | rw [show (sizeS 5).toNat = 8 from rfl] at *
      | rw [show (sizeS 6).toNat = 8 from rfl] at *
      refine ⟨⟨by simp only; omega, by simp only; omega, by simp only; omega, by simp only; omega⟩, by simp, ?_, by omega, by omega, ?_, hloc2⟩
      · simp [errS]; try omega
      · refine hcut.trans ?_
        simp only [oneS, bodyS, Nat.reduceEqDiff, if_false, or_true, true_or, or_false, false_or, if_true, hbig, hof]
        rw [List.append_assoc]; rfl
  rw [if_neg t36] at hun
  by_cases t78 : t = 7 ∨ t = 8
  · rw [if_pos t78] at hun
    cases hun
    have hbig := big_num' hbl
    have hk := numB_lt ((l.take (p + 1 + (sizeS t).toNat)).drop (p + 1))
    rw [hbl] at hk
    have hloc2 : ∀ l' : List UInt8, l'.take (p + 1 + (sizeS t).toNat) = l.take (p + 1 + (sizeS t).toNat) → p + 1 + (sizeS t).toNat ≤ l'.length → refOne l' p = .inr (⟨t, [], 0, numB ((l.take (p + 1 + (sizeS t).toNat)).drop (p + 1)), 0⟩, p + 1 + (sizeS t).toNat) := by
      intro l' g1 g2
      rw [hgo l' g1 g2 (by omega)]
      have g3 := (hloc l' g1 g2 (by omega)).2.1
      simp only [if_neg hsz, if_neg t1, if_neg t36, if_pos t78]
      rw [if_neg (by omega), g3 _ _ (by omega)]
    rcases t78 with rfl | rfl
    all_goals
      first
      | rw [show (sizeS 7).toNat = 2 from rfl] at *
      | rw [show (sizeS 8).toNat = 2 from rfl] at *
      refine ⟨⟨by simp only; omega, by simp only; omega, by simp only; omega, by simp only; omega⟩, by simp, ?_, by omega, by omega, ?_, hloc2⟩
      · simp [errS]
      · refine hcut.trans ?_
        simp only [oneS, bodyS, Nat.reduceEqDiff, if_false, or_true, true_or, or_false, false_or, if_true, hbig, hof]
        rw [List.append_assoc]; rfl
  rw [if_neg t78] at hun
  have hcase : t = 9 ∨ t = 10 ∨ t = 11 ∨ t = 12 := by
    unfold sizeS at hsz
    by_cases h9 : t = 9 ∨ t = 10 ∨ t = 11 ∨ t = 12
    · exact h9
    · rw [if_neg (by omega), if_neg (by omega), if_neg (by omega)] at hsz
      omega
  cases hun
  have hz4 : (sizeS t).toNat = 4 := by rcases hcase with rfl | rfl | rfl | rfl <;> rfl
  have hloc2 : ∀ l' : List UInt8, l'.take (p + 1 + (sizeS t).toNat) = l.take (p + 1 + (sizeS t).toNat) → p + 1 + (sizeS t).toNat ≤ l'.length → refOne l' p = .inr (⟨t, [], 0, numB (((l.take (p + 1 + (sizeS t).toNat)).drop (p + 1)).take 2), numB (((l.take (p + 1 + (sizeS t).toNat)).drop (p + 1)).drop 2)⟩, p + 1 + (sizeS t).toNat) := by
    intro l' g1 g2
    rw [hgo l' g1 g2 (by omega)]
    have g3 := (hloc l' g1 g2 (by omega)).2.1
    simp only [if_neg hsz, if_neg t1, if_neg t36, if_neg t78]
    rw [if_neg (by omega), g3 _ _ (by omega)]
  simp only [hz4] at hbl hcut hz hloc2 ⊢
  generalize (l.take (p + 1 + 4)).drop (p + 1) = bs at *
  have hb1 : (bs.take 2).length = 2 := by simp; omega
  have hb2 : (bs.drop 2).length = 2 := by simp; omega
  have hk1 := numB_lt (bs.take 2)
  have hk2 := numB_lt (bs.drop 2)
  rw [hb1] at hk1
  rw [hb2] at hk2
  have hg1 := big_num' hb1
  have hg2 := big_num' hb2
  refine ⟨⟨by simp only; omega, by simp only; omega, by simp only; omega, by simp only; omega⟩, by simp, ?_, by omega, by omega, ?_, hloc2⟩
  · have h0 : ¬ t = 0 := by omega
    have h3 : ¬ (t = 3 ∨ t = 4) := by omega
    have h4 : ¬ (t = 2 ∨ 12 < t) := by omega
    simp only [errS, h0, t1, h3, h4, if_false, decide_false]
    simp
  · have h0 : ¬ t = 0 := by omega
    have h3 : ¬ (t = 3 ∨ t = 4) := by omega
    have h4 : ¬ (t = 5 ∨ t = 6) := by omega
    refine hcut.trans ?_
    simp only [oneS, bodyS, h0, t1, h3, h4, t78, if_false, hg1, hg2, List.take_append_drop, hof]
    rw [List.append_assoc]; rfl

theorem wrS_zero {cs : List Cst} {k : Nat} {s : List UInt8} : wrS (Cst.zero :: cs) true k s = wrS cs false (k + 1) s := by
  rw [wrS, if_neg (by decide)]
  simp [Cst.zero, oneS, bigTwo]
theorem wrS_one {c : Cst} {cs : List Cst} {k : Nat} {s : List UInt8} (h : errS false c = 0) : wrS (c :: cs) false k s = wrS cs (bigTwo c.tag) (k + 1) (s ++ oneS c) := by
  rw [wrS, if_neg (by rw [h]; simp)]

/-- What is known of a pool that was read. -/
structure Back (l : List UInt8) (n : Nat) (k : Nat) (cs : List Cst) (p : Nat) (r : RR) : Prop where
  le : p ≤ r.2.1
  top : r.2.1 ≤ l.length
  len : r.1.length = n
  fit : ∀ c ∈ r.1, c.Fit ∧ c.text.length ≤ 65535
  wr : wrS r.1 true 0 (bigS n 2) = (l.take r.2.1, 0, 0)
  z : r.2.2.2 = 0
  loc : ∀ l' : List UInt8, l'.take r.2.1 = l.take r.2.1 → r.2.1 ≤ l'.length → refLoop l' n k cs p = r
theorem loop_back (l : List UInt8) (n : Nat) : ∀ (k : Nat) (cs : List Cst) (p : Nat), n ≤ k + cs.length → cs.length ≤ n → p ≤ l.length → (∀ c ∈ cs, c.Fit ∧ c.text.length ≤ 65535) →
    (∀ cs2, wrS (cs ++ cs2) true 0 (bigS n 2) = wrS cs2 false cs.length (l.take p)) → (refLoop l n k cs p).2.2.1 = 0 → Back l n k cs p (refLoop l n k cs p) := by
  intro k
  induction k with
  | zero =>
    intro cs p h1 h2 h3 h4 h5 _
    have := h5 []
    rw [List.append_nil, wrS] at this
    exact ⟨Nat.le_refl _, h3, by simp only [refLoop]; omega, h4, by simp only [refLoop]; rw [this]; rfl, rfl, fun _ _ _ => rfl⟩
  | succ k ih =>
    intro cs p h1 h2 h3 h4 h5 h6
    by_cases hlt : cs.length < n
    · have hst : ∀ m : List UInt8, refLoop m n (k + 1) cs p = (match refOne m p with
        | .inl e => ([], 0, e.1, e.2)
        | .inr (c, p') => if bigTwo c.tag then (if n < cs.length + 2 then ([], 0, 12, p) else refLoop m n k (cs ++ [c] ++ [Cst.zero]) p') else refLoop m n k (cs ++ [c]) p') := fun m => by
          rw [refLoop, if_pos hlt]
          cases refOne m p <;> rfl
      rw [hst] at h6 ⊢
      cases hr : refOne l p with
      | inl e =>
        rw [hr] at h6
        have := one_ref (l := l) (p := p) (es := 0) h3
        rw [hr] at this
        exact absurd h6 this.1
      | inr c =>
        obtain ⟨c, p'⟩ := c
        rw [hr] at h6
        obtain ⟨b1, b2, b3, b4, b5, b6, b7⟩ := one_back hr
        simp only at h6 ⊢
        by_cases hb : bigTwo c.tag = true
        · rw [if_pos hb] at h6 ⊢
          by_cases hn : n < cs.length + 2
          · rw [if_pos hn] at h6; cases h6
          · rw [if_neg hn] at h6 ⊢
            have B := ih (cs ++ [c] ++ [Cst.zero]) p' (by simp; omega) (by simp; omega) b5 (by
              intro x hx
              simp only [List.mem_append, List.mem_singleton] at hx
              rcases hx with (hx | rfl) | rfl
              · exact h4 x hx
              · exact ⟨b1, b2⟩
              · exact ⟨⟨by decide, by decide, by decide, by decide⟩, by decide⟩) (by
              intro cs2
              rw [List.append_assoc, List.append_assoc, h5, List.singleton_append, List.singleton_append, wrS_one b3, hb, wrS_zero, b6]
              simp) h6
            refine ⟨Nat.le_trans (Nat.le_of_lt b4) B.le, B.top, B.len, B.fit, B.wr, B.z, ?_⟩
            intro l' g1 g2
            have hle := B.le
            rw [hst, b7 l' (take_le g1 hle) (by omega)]
            simp only [if_pos hb, if_neg hn]
            exact B.loc l' g1 g2
        · rw [if_neg hb] at h6 ⊢
          have B := ih (cs ++ [c]) p' (by simp; omega) (by simp; omega) b5 (by
            intro x hx
            simp only [List.mem_append, List.mem_singleton] at hx
            rcases hx with hx | rfl
            · exact h4 x hx
            · exact ⟨b1, b2⟩) (by
            intro cs2
            have hb' : bigTwo c.tag = false := by simpa using hb
            rw [List.append_assoc, h5, List.singleton_append, wrS_one b3, hb', b6]
            simp) h6
          refine ⟨Nat.le_trans (Nat.le_of_lt b4) B.le, B.top, B.len, B.fit, B.wr, B.z, ?_⟩
          intro l' g1 g2
          have hle := B.le
          rw [hst, b7 l' (take_le g1 hle) (by omega)]
          simp only [if_neg hb]
          exact B.loc l' g1 g2
    · have hst : ∀ m : List UInt8, refLoop m n (k + 1) cs p = (cs, p, 0, 0) := fun m => by rw [refLoop, if_neg hlt]
      rw [hst]
      have := h5 []
      rw [List.append_nil, wrS] at this
      exact ⟨Nat.le_refl _, h3, by simp only; omega, h4, by simp only; rw [this]; rfl, rfl, fun l' _ _ => hst l'⟩

/-- A pool that is read is written as it was, and read again. -/
theorem read_back (l : List UInt8) (he : (refRead l).2.2.1 = 0) :
    writeS (refRead l).1 = (l.take (refRead l).2.1, 0, 0) ∧ (refRead l).2.1 ≤ l.length ∧ (∀ c ∈ (refRead l).1, c.Fit ∧ c.text.length ≤ 65535) ∧ ∀ m, refRead (l.take (refRead l).2.1 ++ m) = refRead l := by
  have hR : refRead l = (if l.length < 2 then ([], 0, 1, l.length)
    else if numB (l.take 2) = 0 then ([], 0, 12, 0)
    else refLoop l (numB (l.take 2)) (numB (l.take 2)) [Cst.zero] 2) := rfl
  by_cases h2 : l.length < 2
  · rw [if_pos h2] at hR; rw [hR] at he; cases he
  rw [if_neg h2] at hR
  by_cases hz : numB (l.take 2) = 0
  · rw [if_pos hz] at hR; rw [hR] at he; cases he
  rw [if_neg hz] at hR
  have h2l : (l.take 2).length = 2 := by simp; omega
  have hn := numB_lt (l.take 2)
  rw [h2l] at hn
  have hbig := big_num' h2l
  have B := loop_back l (numB (l.take 2)) (numB (l.take 2)) [Cst.zero] 2 (by simp) (by simp; omega) (by omega) (by
    intro c hc
    rw [List.mem_singleton] at hc
    subst hc
    exact ⟨⟨by decide, by decide, by decide, by decide⟩, by decide⟩) (by
    intro cs2
    rw [List.singleton_append, wrS_zero, hbig]; rfl) (by rw [← hR]; exact he)
  rw [← hR] at B
  have hlen := B.len
  refine ⟨?_, B.top, B.fit, ?_⟩
  · unfold writeS
    rw [if_neg (by omega), B.len, B.wr]
  · intro m
    have hle := B.le
    have htop := B.top
    have hl0 : (l.take (refRead l).2.1).length = (refRead l).2.1 := by simp; omega
    have h1 : (l.take (refRead l).2.1 ++ m).take (refRead l).2.1 = l.take (refRead l).2.1 := List.take_left' hl0
    have h3 : (l.take (refRead l).2.1 ++ m).take 2 = l.take 2 := take_le h1 hle
    have h4 := B.loc (l.take (refRead l).2.1 ++ m) h1 (by simp; omega)
    have h5 : ¬ (l.take (refRead l).2.1 ++ m).length < 2 := by simp; omega
    generalize hX : refRead l = X at *
    unfold refRead
    rw [if_neg h5, h3, if_neg hz]
    exact h4
end Go.Proofs.Ytohkbpnblkkdgaa

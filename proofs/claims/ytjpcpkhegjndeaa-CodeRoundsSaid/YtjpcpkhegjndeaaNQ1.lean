/- What is read is written as it was: numbers, rows of a switch (plain). -/
import Derived.Test.YtjpcpkhegjndeaaND1
import Derived.Test.YtjpcpkhegjndeaaN7
namespace Go.Proofs.Ytjpcpkhegjndeaa
open Go.Vc
set_option maxRecDepth 100000
set_option linter.unusedSimpArgs false
set_option linter.unusedVariables false

theorem bigS_cut (a y : Nat) : ∀ (n : Nat), bigS (a * 256 ^ n + y) n = bigS y n := by
  intro n
  unfold bigS
  apply List.map_congr_left
  intro k hk
  have hk := List.mem_range.1 hk
  congr 1
  have h1 : 256 ^ n = 256 ^ (k + 1) * 256 ^ (n - 1 - k) := by rw [← Nat.pow_add]; congr 1; omega
  rw [h1, ← Nat.mul_assoc, Nat.mul_comm (a * 256 ^ (k + 1)), Nat.mul_add_div (Nat.pow_pos (by decide)), Nat.pow_succ, ← Nat.mul_assoc]
  omega
theorem numB_join (a : List UInt8) : ∀ b : List UInt8, numB (a ++ b) = numB a * 256 ^ b.length + numB b := by
  suffices H : ∀ (k : Nat) (b : List UInt8), b.length = k → numB (a ++ b) = numB a * 256 ^ b.length + numB b from fun b => H _ b rfl
  intro k
  induction k with
  | zero => intro b hb; have := List.length_eq_zero_iff.1 hb; subst this; simp [numB]
  | succ k ih =>
    intro b hb
    obtain ⟨c, d, rfl⟩ : ∃ c d, b = c ++ [d] := by
      rcases List.eq_nil_or_concat b with h | ⟨c, d, h⟩
      · subst h; simp at hb
      · exact ⟨c, d, by simpa using h⟩
    have h1 : c.length = k := by simpa using hb
    rw [← List.append_assoc, numB_append, ih c h1, numB_append, List.length_append, List.length_singleton, Nat.pow_succ, Nat.add_mul, Nat.mul_assoc, Nat.add_assoc]
theorem bigS_numB : ∀ (bs : List UInt8), bigS (numB bs) bs.length = bs := by
  intro bs
  induction bs with
  | nil => rfl
  | cons b r ih =>
    have h1 : numB (b :: r) = b.toNat * 256 ^ r.length + numB r := by
      have := numB_join [b] r
      simpa [numB] using this
    have h2 := numB_lt r
    have hb := UInt8.toNat_lt b
    simp only [Nat.reducePow] at hb
    rw [List.length_cons, bigS_succ, h1, bigS_cut, ih]
    congr 1
    have h3 : (b.toNat * 256 ^ r.length + numB r) / 256 ^ r.length = b.toNat := by
      rw [Nat.mul_comm, Nat.mul_add_div (Nat.pow_pos (by decide)), Nat.div_eq_of_lt h2, Nat.add_zero]
    rw [h3, Nat.mod_eq_of_lt hb]
    exact UInt8.ofNat_toNat

theorem num_ok {l : List UInt8} {n : Nat} {s : RS} (h : (numS l n s).2.e = 0) :
    s.e = 0 ∧ s.p + n ≤ l.length ∧ (numS l n s).2.p = s.p + n ∧ l.take (s.p + n) = l.take s.p ++ bigS (numS l n s).1 n := by
  have e1 : ∀ z : RS, numS l n z = (numB (takeS l n z).1, (takeS l n z).2) := fun _ => rfl
  rw [e1] at h ⊢
  unfold takeS at h ⊢
  by_cases he : s.e = 0
  · by_cases hl : l.length < s.p + n
    · simp [he, hl] at h
    · rw [if_neg (by omega), if_neg hl]
      have hlen : ((l.drop s.p).take n).length = n := by simp; omega
      have := bigS_numB ((l.drop s.p).take n)
      rw [hlen] at this
      refine ⟨he, by omega, rfl, ?_⟩
      simp only
      rw [this, List.take_add]
  · simp [he] at h
theorem put_num {l : List UInt8} {n : Nat} {s : RS} (h : (numS l n s).2.e = 0) (x : Int) (c : Bool) (hx : bigS (atU x) n = bigS (numS l n s).1 n) (hc : c = true) :
    putS (l.take s.p, true) x n c = (l.take (numS l n s).2.p, true) := by
  obtain ⟨_, _, h3, h4⟩ := num_ok h
  unfold putS
  rw [hx, h3, h4, hc]
  rfl
theorem atU_natQ {v : Nat} (h : v < 18446744073709551616) : atU (v : Int) = v := by
  unfold atU; rw [wrap_u64 (by omega) (by omega)]; omega
theorem atU_negQ {v : Int} (h : -9223372036854775808 ≤ v) (h2 : v < 0) : atU v = (18446744073709551616 + v).toNat := by
  unfold atU
  have : IntKind.u64.wrap v = 18446744073709551616 + v := by
    simp only [IntKind.wrap, IntKind.signed, IntKind.bits]
    first | (simp; omega) | omega
  rw [this]
theorem put_uns {l : List UInt8} {n : Nat} {s : RS} (hn : n = 1 ∨ n = 2) (h : (numS l n s).2.e = 0) (c : Bool) (hc : c = true) :
    putS (l.take s.p, true) ((numS l n s).1 : Int) n c = (l.take (numS l n s).2.p, true) := by
  have hv := numS_lt (l := l) (n := n) (s := s)
  refine put_num h _ _ ?_ hc
  rw [atU_natQ]
  rcases hn with rfl | rfl <;> (simp only [Nat.reducePow] at hv; omega)
theorem uns_num {l : List UInt8} {n : Nat} {s : RS} (hn : n = 1 ∨ n = 2) (h : (numS l n s).2.e = 0) :
    unsS (l.take s.p, true) ((numS l n s).1 : Int) n = (l.take (numS l n s).2.p, true) := by
  have hv := numS_lt (l := l) (n := n) (s := s)
  refine put_uns hn h _ ?_
  unfold okU
  rcases hn with rfl | rfl <;> (simp only [Nat.reducePow] at hv; simp; omega)
theorem sgnN_rng {v n : Nat} (hn : n = 1 ∨ n = 2 ∨ n = 4) (hv : v < 256 ^ n) : -(128 * 256 ^ (n - 1)) ≤ sgnN v n ∧ sgnN v n ≤ 128 * 256 ^ (n - 1) - 1 ∧ bigS (atU (sgnN v n)) n = bigS v n := by
  unfold sgnN
  rcases hn with rfl | rfl | rfl
  · simp only [Nat.reducePow, Nat.reduceSub, Nat.reduceMul, Int.reducePow, Int.reduceMul, Int.reduceNeg, Int.reduceSub] at hv ⊢
    split
    · refine ⟨by omega, by omega, ?_⟩
      rw [atU_negQ (by omega) (by omega), ← bigS_cut 72057594037927935 v 1]
      congr 1; omega
    · refine ⟨by omega, by omega, ?_⟩
      rw [atU_natQ (by omega)]
  · simp only [Nat.reducePow, Nat.reduceSub, Nat.reduceMul, Int.reducePow, Int.reduceMul, Int.reduceNeg, Int.reduceSub] at hv ⊢
    split
    · refine ⟨by omega, by omega, ?_⟩
      rw [atU_negQ (by omega) (by omega), ← bigS_cut 281474976710655 v 2]
      congr 1; omega
    · refine ⟨by omega, by omega, ?_⟩
      rw [atU_natQ (by omega)]
  · simp only [Nat.reducePow, Nat.reduceSub, Nat.reduceMul, Int.reducePow, Int.reduceMul, Int.reduceNeg, Int.reduceSub] at hv ⊢
    split
    · refine ⟨by omega, by omega, ?_⟩
      rw [atU_negQ (by omega) (by omega), ← bigS_cut 4294967295 v 4]
      congr 1; omega
    · refine ⟨by omega, by omega, ?_⟩
      rw [atU_natQ (by omega)]
theorem sgn_rng {l : List UInt8} {n : Nat} {s : RS} (hn : n = 1 ∨ n = 2 ∨ n = 4) : -(128 * 256 ^ (n - 1)) ≤ (sgnD l n s).1 ∧ (sgnD l n s).1 ≤ 128 * 256 ^ (n - 1) - 1 :=
  ⟨(sgnN_rng hn numS_lt).1, (sgnN_rng hn numS_lt).2.1⟩
theorem sgn_num {l : List UInt8} {n : Nat} {s : RS} (hn : n = 1 ∨ n = 2 ∨ n = 4) (h : (sgnD l n s).2.e = 0) :
    sgnS (l.take s.p, true) (sgnD l n s).1 n = (l.take (sgnD l n s).2.p, true) := by
  obtain ⟨h1, h2, h3⟩ := sgnN_rng hn (numS_lt (l := l) (n := n) (s := s))
  refine put_num (n := n) (s := s) h _ _ h3 ?_
  unfold okI
  have h1' : decide (-(128 * 256 ^ (n - 1)) ≤ (sgnD l n s).1) = true := decide_eq_true h1
  have h2' : decide ((sgnD l n s).1 ≤ 128 * 256 ^ (n - 1) - 1) = true := decide_eq_true h2
  rw [h1', h2']
  rfl
theorem sgn_ok {l : List UInt8} {n : Nat} {s : RS} (h : (sgnD l n s).2.e = 0) : s.e = 0 ∧ s.p + n ≤ l.length ∧ (sgnD l n s).2.p = s.p + n :=
  have k := num_ok (l := l) (n := n) (s := s) h
  ⟨k.1, k.2.1, k.2.2.1⟩
theorem wr_id {x : Int} (h1 : -9223372036854775808 ≤ x) (h2 : x < 9223372036854775808) : wr x = x := by
  unfold wr
  simp only [IntKind.wrap, IntKind.signed, IntKind.bits]
  first | (simp; omega) | omega
theorem tgt_num {l : List UInt8} {n a : Nat} {s : RS} (hn : n = 1 ∨ n = 2 ∨ n = 4) (h : (sgnD l n s).2.e = 0) :
    sgnS (l.take s.p, true) (wr ((a : Int) + (sgnD l n s).1 - a)) n = (l.take (sgnD l n s).2.p, true) := by
  have hr := sgn_rng (l := l) (s := s) hn
  have e1 : (a : Int) + (sgnD l n s).1 - a = (sgnD l n s).1 := by omega
  rw [e1, wr_id (by rcases hn with rfl | rfl | rfl <;> (simp at hr; omega)) (by rcases hn with rfl | rfl | rfl <;> (simp at hr; omega))]
  exact sgn_num hn h
theorem fail_ne {e q : Nat} {s : RS} (he : e ≠ 0) : (failS e q s).e ≠ 0 := by
  unfold failS
  split <;> assumption
theorem fail_ite {c : Prop} [Decidable c] {e q : Nat} {s : RS} (he : e ≠ 0) (h : (if c then failS e q s else s).e = 0) : ¬ c ∧ s.e = 0 ∧ (if c then failS e q s else s) = s := by
  by_cases hc : c
  · rw [if_pos hc] at h; exact absurd h (fail_ne he)
  · rw [if_neg hc] at h ⊢; exact ⟨hc, h, rfl⟩
theorem pad_ok {l : List UInt8} {a : Nat} : ∀ (k : Nat) (s : RS), (padD l a k s).e = 0 →
    s.e = 0 ∧ (padD l a k s).p = s.p + min k ((4 - s.p % 4) % 4) ∧ l.take (padD l a k s).p = l.take s.p ++ List.replicate (min k ((4 - s.p % 4) % 4)) 0 := by
  intro k
  induction k with
  | zero => intro s h; exact ⟨h, by simp [padD], by simp [padD]⟩
  | succ k ih =>
    intro s
    rw [padD]
    split
    · rename_i hc
      intro h
      have : s.p % 4 = 0 := by omega
      have h0 : (4 - s.p % 4) % 4 = 0 := by omega
      rw [h0]
      exact ⟨h, by simp, by simp⟩
    · rename_i hc
      intro h
      obtain ⟨h1, h2, h3⟩ := ih _ h
      obtain ⟨k1, k2, k3⟩ := fail_ite (by decide) h1
      rw [k3] at h2 h3 ⊢
      obtain ⟨g1, g2, g3, g4⟩ := num_ok k2
      rw [g3] at h2 h3
      have hz : (numS l 1 s).1 = 0 := by omega
      rw [hz] at g4
      have e1 : min (k + 1) ((4 - s.p % 4) % 4) = min k ((4 - (s.p + 1) % 4) % 4) + 1 := by omega
      refine ⟨g1, by omega, ?_⟩
      rw [h3, g4, e1, List.replicate_succ, List.append_assoc]
      rfl
theorem padS_num {l : List UInt8} {a : Nat} {s : RS} (hp : s.p ≤ l.length) (h : (padD l a 4 s).e = 0) : padS (l.take s.p) = l.take (padD l a 4 s).p := by
  obtain ⟨h1, h2, h3⟩ := pad_ok 4 s h
  unfold padS
  rw [h3, List.length_take, Nat.min_eq_left hp]
  congr 2
  omega
theorem rows_stop {f : Nat} {l : List UInt8} {a : Nat} : ∀ (r : Nat) (c : KT), (rowsD f l a r c).2.2.e = 0 → c.2.2.e = 0 := by
  intro r
  cases r with
  | zero => intro c h; exact h
  | succ r =>
    intro c
    rw [rowsD]
    split
    · intro h; exact h
    · intro _; omega
theorem rows_back {f : Nat} (hf : f = 10 ∨ f = 11) {l : List UInt8} {a : Nat} : ∀ (r : Nat) (ks ts : List Int) (s : RS), (rowsD f l a r (ks, ts, s)).2.2.e = 0 →
    ∃ K T : List Int, T.length = r ∧ (f = 11 → K.length = r) ∧ (rowsD f l a r (ks, ts, s)).1 = ks ++ K ∧ (rowsD f l a r (ks, ts, s)).2.1 = ts ++ T ∧ s.e = 0 ∧
      ∀ k, (f = 11 → k = ks.length) → rowE f (ks ++ K) a T k (l.take s.p, true) = (l.take (rowsD f l a r (ks, ts, s)).2.2.p, true) := by
  intro r
  induction r with
  | zero =>
    intro ks ts s h
    exact ⟨[], [], rfl, fun _ => rfl, by simp [rowsD], by simp [rowsD], h, fun k _ => by simp [rowE, rowsD]⟩
  | succ r ih =>
    intro ks ts s h
    have hs : s.e = 0 := rows_stop _ _ h
    have e0 : rowsD f l a (r + 1) (ks, ts, s) = rowsD f l a r ((keyD f l a ks s).1, ts ++ [(a : Int) + (sgnD l 4 (keyD f l a ks s).2).1], (sgnD l 4 (keyD f l a ks s).2).2) := by
      rw [rowsD, if_neg (by simpa using hs)]
    rw [e0] at h ⊢
    obtain ⟨K, T, h1, h2, h3, h4, h5, h6⟩ := ih _ _ _ h
    have hg := sgn_ok h5
    rcases hf with rfl | rfl
    · have ek : keyD 10 l a ks s = (ks, s) := by simp [keyD]
      rw [ek] at h3 h4 h5 h6 hg ⊢
      refine ⟨K, ((a : Int) + (sgnD l 4 s).1) :: T, by simp [h1], fun hh => absurd hh (by decide), h3, by rw [h4]; simp, hs, fun k _ => ?_⟩
      rw [rowE, if_neg (by decide), tgt_num (Or.inr (Or.inr rfl)) h5]
      exact h6 _ (fun hh => absurd hh (by decide))
    · have ek : keyD 11 l a ks s = (ks ++ [(sgnD l 4 s).1], if ks ≠ [] ∧ (sgnD l 4 s).1 ≤ ks.getD (ks.length - 1) 0 then failS 15 a (sgnD l 4 s).2 else (sgnD l 4 s).2) := by simp [keyD]
      rw [ek] at h3 h4 h5 h6 hg ⊢
      simp only at h3 h4 h5 h6 hg ⊢
      obtain ⟨k1, k2, k3⟩ := fail_ite (by decide) hg.1
      rw [k3] at h3 h4 h5 h6 ⊢
      refine ⟨(sgnD l 4 s).1 :: K, ((a : Int) + (sgnD l 4 (sgnD l 4 s).2).1) :: T, by simp [h1], fun _ => by simp [h2 rfl], by rw [h3]; simp, by rw [h4]; simp, hs, fun k hk => ?_⟩
      have hk := hk (by simp)
      subst hk
      have eg : (ks ++ (sgnD l 4 s).1 :: K).getD ks.length 0 = (sgnD l 4 s).1 := by simp
      have eo : ordK (ks ++ (sgnD l 4 s).1 :: K) ks.length = true := by
        unfold ordK
        rw [eg]
        by_cases hz : ks = []
        · subst hz; simp
        · have hl : 0 < ks.length := List.length_pos_iff.2 hz
          have e3 : (ks ++ (sgnD l 4 s).1 :: K).getD (ks.length - 1) 0 = ks.getD (ks.length - 1) 0 := by
            simp only [List.getD_eq_getElem?_getD]
            rw [List.getElem?_append_left (by omega)]
          rw [e3]
          have : ks.getD (ks.length - 1) 0 < (sgnD l 4 s).1 := by
            exact Int.not_le.1 (fun h => k1 ⟨hz, h⟩)
          simp only [Bool.or_eq_true, decide_eq_true_eq]
          exact Or.inr this
      rw [rowE, if_pos rfl, eg, eo]
      rw [show (true && true) = true from rfl, sgn_num (Or.inr (Or.inr rfl)) k2, tgt_num (Or.inr (Or.inr rfl)) h5]
      have := h6 (ks.length + 1) (fun _ => by simp)
      rw [List.append_assoc] at this
      exact this
end Go.Proofs.Ytjpcpkhegjndeaa

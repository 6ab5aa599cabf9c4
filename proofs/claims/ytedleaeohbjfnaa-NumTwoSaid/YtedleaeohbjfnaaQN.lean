/- The reference's close, whole. No condition. -/
import Derived.Test.YtedleaeohbjfnaaQM
namespace Go.Proofs.Ytedleaeohbjfnaa
open Go.Vc Go.Num
set_option maxRecDepth 100000
set_option linter.unusedSimpArgs false
set_option linter.unusedVariables false

/-- Half a unit, and what is left. -/
theorem rk_half {x d G : Nat} (st : Bool) (hG : 2 ^ d = 2 * G) : rk x d st = x / 2 ^ d + if G < x % 2 ^ d ∨ (x % 2 ^ d = G ∧ (st = true ∨ x / 2 ^ d % 2 = 1)) then 1 else 0 := by
  unfold rk
  congr 1
  rw [hG]
  generalize x % (2 * G) = r
  have e1 : (2 * G < 2 * r) = (G < r) := propext ⟨fun h => by omega, fun h => by omega⟩
  have e2 : (2 * r = 2 * G) = (r = G) := propext ⟨fun h => by omega, fun h => by omega⟩
  simp only [e1, e2]
set_option maxHeartbeats 2000000 in
theorem close_any {h : Heap} {m e : Nat} {neg st : Bool} {x : Nat} {p : Int} (hk : Kd m e) (hx : x < 18446744073709551616) (hp : -100000 ≤ p ∧ p ≤ 100000) :
    HCalls Try.prog 39 #[kV m e, .bool neg, .int .u64 (x : Int), .int .i64 p, .bool st] h fun v h' => Ext h h' ∧ v = .int .u64 ((closeP (fmt m e) neg x p st : Nat) : Int) := by
  refine C.k_close_calls (args := [kV m e, .bool neg, .int .u64 (x : Int), .int .i64 p, .bool st]) rfl ?_
  simp (disch := first | omega | assumption) only [C.k_close_gos, T.tv, ↓reduceIte, Nat.reduceEqDiff, reduceCtorEq, Nat.reduceLeDiff, Nat.reducePow, Int.reducePow, Int.reduceToNat, Nat.reduceAdd]
  refine eff_box ?_
  have H := KB.push h m e
  have E := Ext.push h (.cells #[.int .i64 (m : Int), .int .i64 (e : Int)] 35)
  simp (disch := first | omega | assumption) only [C.k_close_gos, T.tv, ↓reduceIte, Nat.reduceEqDiff, reduceCtorEq, Nat.reduceLeDiff, Nat.reducePow, Int.reducePow, Int.reduceToNat, Nat.reduceAdd, Nat.zero_add]
  generalize h.push (.cells #[.int .i64 (m : Int), .int .i64 (e : Int)] 35) = h1 at *
  generalize h.size = g at *
  have c0 := H.c0
  have lk := H.ld
  have hlen : len x ≤ 64 := le_len (by rw [show (2 : Nat) ^ 64 = 18446744073709551616 by decide]; exact hx)
  have hm : m ≤ 52 := by rcases hk with ⟨rfl, rfl⟩ | ⟨rfl, rfl⟩ <;> decide
  have hlp : -1074 ≤ (fmt m e).leastPlace ∧ (fmt m e).leastPlace ≤ 0 := by rcases hk with ⟨rfl, rfl⟩ | ⟨rfl, rfl⟩ <;> decide
  have tail := fun (h' : Heap) (q : Nat) (up : Bool) (E' : Ext h h') (H' : KB h' g m e) (sh : Int) (u15 u16 u17 u32 u39 u69 u81 u89 u98 u114 : Value) (hq : qP x p (lastP m (fmt m e).leastPlace x p) st = q + (if up = true then 1 else 0)) =>
    close_tail (neg := neg) (sh := sh) (u15 := u15) (u16 := u16) (u17 := u17) (u32 := u32) (u39 := u39) (u69 := u69) (u81 := u81) (u89 := u89) (u98 := u98) (u114 := u114) hk E' H' rfl (by unfold lastP; omega) hq
  have hqle := q_le m (fmt m e).leastPlace x p st
  have hp2 : 2 ^ (m + 1) ≤ 2 ^ 53 := Nat.pow_le_pow_right (by decide) (by omega)
  have hL : lastP m (fmt m e).leastPlace x p = if p + (len x : Int) - m - 1 < (fmt m e).leastPlace then (fmt m e).leastPlace else p + (len x : Int) - m - 1 := by
    unfold lastP; split <;> omega
  have hLb : -200000 ≤ lastP m (fmt m e).leastPlace x p ∧ lastP m (fmt m e).leastPlace x p ≤ 200000 := by unfold lastP; omega
  have least := fun (h' : Heap) => least_any (h := h') hk
  generalize (fmt m e).leastPlace = lp at hlp hL hLb tail hqle least
  generalize lastP m lp x p = L at *
  generalize hpost : (fun (v : Value) h' => Ext h h' ∧ v = .int .u64 ((closeP (fmt m e) neg x p st : Nat) : Int)) = post at tail ⊢
  clear hpost
  simp (disch := first | omega | assumption) only [C.k_close_gos, T.tv, ↓reduceIte, Nat.reduceEqDiff, reduceCtorEq, Nat.reduceLeDiff, Nat.reducePow, Int.reducePow, Int.reduceToNat, Nat.reduceAdd, vf, c0, lk]
  refine eff_callF rfl ((length_any hx).mono ?_)
  rintro v1 h2 ⟨rfl, rfl⟩
  simp (disch := first | omega | assumption) only [C.k_close_gos, T.tv, ↓reduceIte, Nat.reduceEqDiff, reduceCtorEq, Nat.reduceLeDiff, Nat.reducePow, Int.reducePow, Int.reduceToNat, Nat.reduceAdd, vf, c0, lk]
  refine eff_callF rfl ((least _).mono ?_)
  rintro v1 h3 ⟨hx3, rfl⟩
  have H3 := H.ext hx3
  have E3 := E.trans hx3
  have c03 := H3.c0
  have lk3 := H3.ld
  clear c0 lk H E hx3
  have hLs := hL.symm
  unfold qP at tail hqle
  rcases (by omega : L ≤ p ∨ (p < L ∧ L < p + 64) ∨ L = p + 64 ∨ p + 64 < L) with s | ⟨s, s'⟩ | s | s
  · obtain ⟨k, hk'⟩ : ∃ k, k = (p - L).toNat := ⟨_, rfl⟩
    rw [if_pos s, ← hk'] at tail hqle
    have hL1 : p + (len x : Int) - m - 1 ≤ L := by rw [hL]; split <;> omega
    have hk64 : k ≤ 64 := by omega
    have e1 : (0 : Int) - (L - p) = (k : Int) := by omega
    have e2 : IntKind.u64.wrap ((x : Int) * 2 ^ k) = ((x * 2 ^ k : Nat) : Int) := by
      rw [show (x : Int) * 2 ^ k = ((x * 2 ^ k : Nat) : Int) by rw [Int.natCast_mul, Int.natCast_pow]; rfl]
      exact wrap_u64 (by omega) (by omega)
    have s2 : L - p ≤ 0 := by omega
    simp (disch := first | omega | assumption) only [C.k_close_gos, T.tv, ↓reduceIte, Nat.reduceEqDiff, reduceCtorEq, Nat.reduceLeDiff, Nat.reducePow, Int.reducePow, Int.reduceToNat, Nat.reduceAdd, vf, va, c03, lk3, hLs, e1, e2, s2, hk64]
    exact tail h3 _ false E3 H3 _ _ _ _ _ _ _ _ _ _ _ (by rw [if_neg (by decide), Nat.add_zero])
  · obtain ⟨d, hd⟩ : ∃ d, d = (L - p).toNat := ⟨_, rfl⟩
    obtain ⟨G, hG⟩ : ∃ G, G = 2 ^ (d - 1) := ⟨_, rfl⟩
    have hG2 : 2 ^ d = 2 * G := by rw [hG, Nat.mul_comm, ← Nat.pow_succ]; congr 1; omega
    rw [if_neg (by omega), ← hd, rk_half st hG2] at tail
    clear hqle
    have hd64 : d ≤ 64 := by omega
    have hd64' : d - 1 ≤ 64 := by omega
    have hGb : G < 18446744073709551616 := by
      rw [hG, show (18446744073709551616 : Nat) = 2 ^ 64 by decide]; exact Nat.pow_lt_pow_right (by decide) (by omega)
    have d1 : L - p = (d : Int) := by omega
    have d2 : (d : Int) - 1 = ((d - 1 : Nat) : Int) := by omega
    have s2 : ¬ (d : Int) ≤ 0 := by omega
    have s3 : (d : Int) < 64 := by omega
    have hdm := Nat.div_add_mod x (2 ^ d)
    rw [Nat.mul_comm] at hdm
    have e1 : (x : Int).fdiv (2 ^ d) = ((x / 2 ^ d : Nat) : Int) := by
      have hn : (2 : Int) ^ d = ((2 ^ d : Nat) : Int) := by rw [Int.natCast_pow]; rfl
      rw [hn, Int.fdiv_eq_ediv_of_nonneg _ (by omega), Int.natCast_ediv]
    have e2 : ((x / 2 ^ d : Nat) : Int) * 2 ^ d = ((x / 2 ^ d * 2 ^ d : Nat) : Int) := by rw [Int.natCast_mul, Int.natCast_pow]; rfl
    have e5 : (1 : Int) * 2 ^ (d - 1) = ((G : Nat) : Int) := by rw [hG, Int.one_mul, Int.natCast_pow]; rfl
    generalize x / 2 ^ d = q at *
    generalize x % 2 ^ d = r at *
    generalize q * 2 ^ d = qd at *
    have e4 : (x : Int) - (qd : Int) = (r : Int) := by omega
    have e6 : IntKind.u64.wrap (qd : Int) = (qd : Int) := wrap_u64 (by omega) (by omega)
    have e7 : IntKind.u64.wrap (r : Int) = (r : Int) := wrap_u64 (by omega) (by omega)
    have e8 : IntKind.u64.wrap (G : Int) = (G : Int) := wrap_u64 (by omega) (by omega)
    clear hG hG2 hdm
    have f : ∀ (up : Bool), (up = decide (G < r ∨ (r = G ∧ (st = true ∨ q % 2 = 1)))) → q + (if G < r ∨ (r = G ∧ (st = true ∨ q % 2 = 1)) then 1 else 0) = q + (if up = true then 1 else 0) := by
      intro up hup
      rw [hup]; simp only [decide_eq_true_eq]
    rcases (by omega : G < r ∨ r = G ∨ r < G) with a | a | a
    · simp (disch := first | omega | assumption) only [C.k_close_gos, T.tv, ↓reduceIte, Nat.reduceEqDiff, reduceCtorEq, Nat.reduceLeDiff, Nat.reducePow, Int.reducePow, Int.reduceToNat, Nat.reduceAdd, vf, va, c03, lk3, hLs, d1, d2, s2, s3, hd64, hd64', e1, e2, e5, e6, e7, e8, e4]
      exact tail h3 q true E3 H3 _ _ _ _ _ _ _ _ _ _ _ (f true (by simp [a]))
    · cases st
      · by_cases b : q % 2 = 1
        · have b' : (q : Int) % 2 = 1 := by omega
          simp (disch := first | omega | assumption) only [C.k_close_gos, T.tv, ↓reduceIte, Nat.reduceEqDiff, reduceCtorEq, Nat.reduceLeDiff, Nat.reducePow, Int.reducePow, Int.reduceToNat, Nat.reduceAdd, vf, va, c03, lk3, hLs, d1, d2, s2, s3, hd64, hd64', e1, e2, e5, e6, e7, e8, e4, b']
          exact tail h3 q true E3 H3 _ _ _ _ _ _ _ _ _ _ _ (f true (by simp [a, b]))
        · have b' : ¬ (q : Int) % 2 = 1 := by omega
          simp (disch := first | omega | assumption) only [C.k_close_gos, T.tv, ↓reduceIte, Nat.reduceEqDiff, reduceCtorEq, Nat.reduceLeDiff, Nat.reducePow, Int.reducePow, Int.reduceToNat, Nat.reduceAdd, vf, va, c03, lk3, hLs, d1, d2, s2, s3, hd64, hd64', e1, e2, e5, e6, e7, e8, e4, b']
          exact tail h3 q false E3 H3 _ _ _ _ _ _ _ _ _ _ _ (f false (by simp [a, b]))
      · simp (disch := first | omega | assumption) only [C.k_close_gos, T.tv, ↓reduceIte, Nat.reduceEqDiff, reduceCtorEq, Nat.reduceLeDiff, Nat.reducePow, Int.reducePow, Int.reduceToNat, Nat.reduceAdd, vf, va, c03, lk3, hLs, d1, d2, s2, s3, hd64, hd64', e1, e2, e5, e6, e7, e8, e4]
        exact tail h3 q true E3 H3 _ _ _ _ _ _ _ _ _ _ _ (f true (by simp [a]))
    · have a' : ¬ r = G := by omega
      have a'' : ¬ G < r := by omega
      simp (disch := first | omega | assumption) only [C.k_close_gos, T.tv, ↓reduceIte, Nat.reduceEqDiff, reduceCtorEq, Nat.reduceLeDiff, Nat.reducePow, Int.reducePow, Int.reduceToNat, Nat.reduceAdd, vf, va, c03, lk3, hLs, d1, d2, s2, s3, hd64, hd64', e1, e2, e5, e6, e7, e8, e4]
      exact tail h3 q false E3 H3 _ _ _ _ _ _ _ _ _ _ _ (f false (by simp [a', a'']))
  · have d1 : L - p = 64 := by omega
    rw [if_neg (by omega), d1, show (64 : Int).toNat = 64 from rfl, rk_half (G := 9223372036854775808) st (by decide), Nat.div_eq_of_lt (by rw [show (2 : Nat) ^ 64 = 18446744073709551616 by decide]; exact hx), Nat.mod_eq_of_lt (by rw [show (2 : Nat) ^ 64 = 18446744073709551616 by decide]; exact hx)] at tail
    clear hqle
    have f : ∀ (up : Bool), (up = decide (9223372036854775808 < x ∨ (x = 9223372036854775808 ∧ (st = true ∨ 0 % 2 = 1)))) → 0 + (if 9223372036854775808 < x ∨ (x = 9223372036854775808 ∧ (st = true ∨ 0 % 2 = 1)) then 1 else 0) = 0 + (if up = true then 1 else 0) := by
      intro up hup
      rw [hup]; simp only [decide_eq_true_eq]
    rcases (by omega : 9223372036854775808 < x ∨ x = 9223372036854775808 ∨ x < 9223372036854775808) with a | a | a
    · simp (disch := first | omega | assumption) only [C.k_close_gos, T.tv, ↓reduceIte, Nat.reduceEqDiff, reduceCtorEq, Nat.reduceLeDiff, Nat.reducePow, Int.reducePow, Int.reduceToNat, Nat.reduceAdd, vf, va, c03, lk3, hLs, d1]
      exact tail h3 0 true E3 H3 _ _ _ _ _ _ _ _ _ _ _ (f true (by simp [a]))
    · cases st
      · simp (disch := first | omega | assumption) only [C.k_close_gos, T.tv, ↓reduceIte, Nat.reduceEqDiff, reduceCtorEq, Nat.reduceLeDiff, Nat.reducePow, Int.reducePow, Int.reduceToNat, Nat.reduceAdd, vf, va, c03, lk3, hLs, d1]
        exact tail h3 0 false E3 H3 _ _ _ _ _ _ _ _ _ _ _ (f false (by simp [a]))
      · simp (disch := first | omega | assumption) only [C.k_close_gos, T.tv, ↓reduceIte, Nat.reduceEqDiff, reduceCtorEq, Nat.reduceLeDiff, Nat.reducePow, Int.reducePow, Int.reduceToNat, Nat.reduceAdd, vf, va, c03, lk3, hLs, d1]
        exact tail h3 0 true E3 H3 _ _ _ _ _ _ _ _ _ _ _ (f true (by simp [a]))
    · have a' : ¬ x = 9223372036854775808 := by omega
      have a'' : ¬ 9223372036854775808 < x := by omega
      simp (disch := first | omega | assumption) only [C.k_close_gos, T.tv, ↓reduceIte, Nat.reduceEqDiff, reduceCtorEq, Nat.reduceLeDiff, Nat.reducePow, Int.reducePow, Int.reduceToNat, Nat.reduceAdd, vf, va, c03, lk3, hLs, d1]
      exact tail h3 0 false E3 H3 _ _ _ _ _ _ _ _ _ _ _ (f false (by simp [a', a'']))
  · have hb : 2 ^ 65 ≤ 2 ^ (L - p).toNat := Nat.pow_le_pow_right (by decide) (by omega)
    rw [show (2 : Nat) ^ 65 = 36893488147419103232 by decide] at hb
    rw [if_neg (by omega), rk_small (by omega)] at tail
    clear hqle hb
    have s2 : ¬ L - p ≤ 0 := by omega
    have s3 : ¬ L - p < 64 := by omega
    have s4 : ¬ L - p = 64 := by omega
    simp (disch := first | omega | assumption) only [C.k_close_gos, T.tv, ↓reduceIte, Nat.reduceEqDiff, reduceCtorEq, Nat.reduceLeDiff, Nat.reducePow, Int.reducePow, Int.reduceToNat, Nat.reduceAdd, vf, va, c03, lk3, hLs, s2, s3, s4]
    exact tail h3 0 false E3 H3 _ _ _ _ _ _ _ _ _ _ _ (by rfl)
end Go.Proofs.Ytedleaeohbjfnaa

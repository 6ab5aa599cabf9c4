/- The five operations of the program on numbers with parts give what the reference's give. No condition. -/
import Derived.Test.YtedleaeohbjfnaaQI
import Derived.Test.YtedleaeohbjfnaaQV
import Derived.Test.YtedleaeohbjfnaaCn
namespace Go.Proofs.Ytedleaeohbjfnaa
open Go.Vc Go.Num
set_option maxRecDepth 100000
set_option linter.unusedSimpArgs false
set_option linter.unusedVariables false

/-! ### Plainly -/
theorem toD_neg (n : Nm) : toD (negN n) = (toD n).opposite := by
  unfold toD negN
  cases n.nan <;> cases n.inf <;> rfl
/-- What an operation gives; what is no number as one. -/
def opS (f : Ieee.Format) (w x y : Nat) : Nat :=
  if w = 0 then (f.add x y).getD (nanW f) else if w = 1 then (f.sub x y).getD (nanW f) else if w = 2 then (f.mul x y).getD (nanW f) else if w = 3 then (f.div x y).getD (nanW f) else modS f x y
theorem refOp_spec {m e : Nat} (hk : Kd m e) (w x y : Nat) : refOp (fmt m e) w x y = opS (fmt m e) w x y := by
  have hf : 2 ≤ (fmt m e).exponentBits := by rcases hk with ⟨rfl, rfl⟩ | ⟨rfl, rfl⟩ <;> decide
  have hfm : (fmt m e).fractionBits + 1 < 64 := by rcases hk with ⟨rfl, rfl⟩ | ⟨rfl, rfl⟩ <;> decide
  unfold refOp opS
  have ox := openN_ok (fmt m e) x
  have oy := openN_ok (fmt m e) y
  have rx := openN_read (fmt m e) hf x
  have ry := openN_read (fmt m e) hf y
  by_cases w0 : w = 0
  · rw [if_pos w0, if_pos w0, addP_spec _ _ _ ox oy, ← rx, ← ry]; rfl
  rw [if_neg w0, if_neg w0]
  by_cases w1 : w = 1
  · rw [if_pos w1, if_pos w1, addP_spec _ _ (negN _) ox ⟨oy.m, oy.e, oy.n⟩, toD_neg, ← rx, ← ry]; rfl
  rw [if_neg w1, if_neg w1]
  by_cases w2 : w = 2
  · rw [if_pos w2, if_pos w2, mulP_spec _ hfm, ← rx, ← ry]; rfl
  rw [if_neg w2, if_neg w2]
  by_cases w3 : w = 3
  · rw [if_pos w3, if_pos w3, divP_spec, ← rx, ← ry]
    · rfl
    · intro h1 h2
      have hb := (openN_b hk y).1
      rw [Nat.le_div_iff_mul_le (Nat.pos_of_ne_zero h2)]
      have hm : (2 : Nat) ^ ((fmt m e).fractionBits + 1) ≤ 2 ^ 53 := Nat.pow_le_pow_right (by decide) (by rcases hk with ⟨rfl, rfl⟩ | ⟨rfl, rfl⟩ <;> decide)
      have h3 : 2 ^ ((fmt m e).fractionBits + 1) * (openN (fmt m e) y).m ≤ 2 ^ 53 * 2 ^ 53 := Nat.mul_le_mul hm (by rw [show (2 : Nat) ^ 53 = 9007199254740992 by decide]; omega)
      rw [← Nat.pow_add] at h3
      have h4 : 2 ^ (53 + 53) ≤ 2 ^ 120 := Nat.pow_le_pow_right (by decide) (by decide)
      have h5 : 2 ^ 120 ≤ (openN (fmt m e) x).m * 2 ^ 120 := Nat.le_mul_of_pos_left _ (Nat.pos_of_ne_zero h1)
      exact Nat.le_trans h3 (Nat.le_trans h4 h5)
  rw [if_neg w3, if_neg w3, remP_spec _ hf]
theorem write_le (f : Ieee.Format) (hb : f.infRung < f.signWeight) {d : Ieee.Datum} (h : d.isNaN = false) : rung f (f.write d) ≤ f.infRung := by
  cases d with
  | number s m p =>
    rw [write_number]
    unfold closeP
    have hr : rnd f m p false ≤ f.infRung := by
      unfold rnd
      split
      · exact Nat.zero_le _
      · exact Nat.min_le_right _ _
    rw [(sgn_word f s (Nat.lt_of_le_of_lt hr hb)).2]; exact hr
  | infinity s =>
    show rung f (f.word s f.infRung) ≤ _
    rw [(sgn_word f s hb).2]; exact Nat.le_refl _
  | nan s n => cases h
theorem sum_num {a b d : Ieee.Datum} (h : a.sum b = some d) : d.isNaN = false := by
  cases a <;> cases b <;> simp only [Ieee.Datum.sum] at h
  all_goals first
    | (cases h; done)
    | (cases h; rfl)
    | (split at h <;> cases h; rfl)
theorem prod_num {a b d : Ieee.Datum} (h : a.product b = some d) : d.isNaN = false := by
  cases a <;> cases b <;> simp only [Ieee.Datum.product] at h
  all_goals first
    | (cases h; done)
    | (cases h; rfl)
    | (split at h <;> cases h; rfl)
theorem quot_num {n : Nat} {a b d : Ieee.Datum} (h : a.quotient n b = some d) : d.isNaN = false := by
  cases a <;> cases b <;> simp only [Ieee.Datum.quotient] at h
  all_goals first
    | (cases h; done)
    | (cases h; rfl)
    | (split at h <;> first | (cases h; done) | (cases h; rfl) | (split at h <;> cases h; rfl))
theorem fop_le {o : BinOp} {f : Ieee.Format} {x y z : Nat} (hb : f.infRung < f.signWeight) (h : fop o f x y = some z) : rung f z ≤ f.infRung := by
  unfold fop at h
  split at h
  · obtain ⟨d, hd, rfl⟩ := Option.map_eq_some_iff.1 h; exact write_le f hb (sum_num hd)
  · obtain ⟨d, hd, rfl⟩ := Option.map_eq_some_iff.1 h; exact write_le f hb (sum_num hd)
  · obtain ⟨d, hd, rfl⟩ := Option.map_eq_some_iff.1 h; exact write_le f hb (prod_num hd)
  · obtain ⟨d, hd, rfl⟩ := Option.map_eq_some_iff.1 h; exact write_le f hb (quot_num hd)
  · cases h
/-- What the program has before it makes one of all that are no number. -/
def PR (f : Ieee.Format) (w x y r : Nat) : Prop := (f.infRung < rung f r ∧ opS f w x y = nanW f) ∨ (rung f r ≤ f.infRung ∧ r = opS f w x y)

theorem mod_PR {x y r : Nat} (hx : x < 18446744073709551616) (h : ModR x y r) : PR D 4 x y r := by
  have ho : opS D 4 x y = modS D x y := by
    unfold opS; rw [if_neg (by decide), if_neg (by decide), if_neg (by decide), if_neg (by decide)]
  unfold PR
  rw [ho]
  unfold ModR at h
  unfold modS
  rw [D_inf]
  by_cases c : 9218868437227405312 ≤ rung D x ∨ 9218868437227405312 < rung D y ∨ rung D y = 0
  · rw [if_pos c] at h ⊢
    rw [h]
    have hr : rung D 9221120237041090561 = 9221120237041090561 := (rung_pos (by decide)).1
    exact .inl ⟨by rw [hr]; decide, rfl⟩
  · rw [if_neg c] at h ⊢
    have hxw := word_of D (x := x) (by show x < 2 ^ 64; rw [show (2 : Nat) ^ 64 = 18446744073709551616 by decide]; exact hx)
    by_cases c2 : rung D y = 9218868437227405312
    · rw [if_pos c2] at h ⊢
      subst h
      exact .inr ⟨by omega, hxw⟩
    · rw [if_neg c2] at h ⊢
      obtain ⟨s, s1, s2, rfl⟩ := h
      rw [← s2, rnd_V (by rw [D_inf]; omega)]
      rw [(sgn_word D (sgn D x) (by rw [D_sw]; omega)).2]
      exact .inr ⟨by omega, rfl⟩
/-! ### Doubles -/
theorem of64_any {h : Heap} {b : Nat} : HCalls Try.prog 23 #[F64 b] h fun v h' => h' = h ∧ v = .int .u64 ((if D.infRung < rung D b then nanW D else b : Nat) : Int) := by
  refine C.num_of64_calls (args := [F64 b]) rfl ?_
  have hn : nanW D = 9221120237041090560 := nw52
  rw [hn, D_inf]
  by_cases c : 9218868437227405312 < rung D b
  · rw [if_pos c]
    have s := ord_self b
    rw [decide_eq_true c] at s
    simp (disch := first | omega | assumption) only [C.num_of64_gos, T.tv, ↓reduceIte, Nat.reduceEqDiff, reduceCtorEq, Nat.reduceLeDiff, Nat.reducePow, Int.reducePow, Int.reduceToNat, Nat.reduceAdd, vf, s]
    rfl
  · rw [if_neg c]
    have s := ord_self b
    rw [decide_eq_false c] at s
    simp (disch := first | omega | assumption) only [C.num_of64_gos, T.tv, ↓reduceIte, Nat.reduceEqDiff, reduceCtorEq, Nat.reduceLeDiff, Nat.reducePow, Int.reducePow, Int.reduceToNat, Nat.reduceAdd, vf, s]
    refine eff_f64bits rfl ?_
    simp (disch := first | omega | assumption) only [C.num_of64_gos, T.tv, ↓reduceIte, Nat.reduceEqDiff, reduceCtorEq, Nat.reduceLeDiff, Nat.reducePow, Int.reducePow, Int.reduceToNat, Nat.reduceAdd]
theorem f64_any {h : Heap} {b : Nat} : HCalls Try.prog 10 #[.int .u64 (b : Int)] h fun v h' => h' = h ∧ v = F64 b := by
  refine C.num_f64_calls (args := [.int .u64 (b : Int)]) rfl ?_
  simp (disch := first | omega | assumption) only [C.num_f64_gos, T.tv, ↓reduceIte, Nat.reduceEqDiff, reduceCtorEq, Nat.reduceLeDiff, Nat.reducePow, Int.reducePow, Int.reduceToNat, Nat.reduceAdd]
  refine eff_f64from rfl ?_
  simp (disch := first | omega | assumption) only [C.num_f64_gos, T.tv, ↓reduceIte, Nat.reduceEqDiff, reduceCtorEq, Nat.reduceLeDiff, Nat.reducePow, Int.reducePow, Int.reduceToNat, Nat.reduceAdd]
theorem part64_any {h : Heap} {w x y : Nat} (hw : w ≤ 4) (hx : x < 18446744073709551616) (hy : y < 18446744073709551616) :
    HCalls Try.prog 24 #[.int .u8 (w : Int), F64 x, F64 y] h fun v h' => h' = h ∧ ∃ r, PR D w x y r ∧ v = F64 r := by
  refine C.num_part64_calls (args := [.int .u8 (w : Int), F64 x, F64 y]) rfl ?_
  have hb : D.infRung < D.signWeight := by decide
  have arith : ∀ (o : BinOp) (z : Option Nat), z = fop o FloatKind.f64.format x y → (∀ r, z.getD (nanW D) = r → opS D w x y = r) → (∀ r, z = some r → PR D w x y r) ∧ (z = none → ∀ r, NaNw FloatKind.f64.format r → PR D w x y r) := by
    intro o z hz ho
    refine ⟨fun r hr => .inr ⟨fop_le hb (show fop o D x y = some r by rw [← hr]; exact hz.symm), ?_⟩, fun hn r hr => .inl ⟨hr.1, ?_⟩⟩
    · exact (ho r (by rw [hr]; rfl)).symm
    · exact ho (nanW D) (by rw [hn]; rfl)
  rcases (by omega : w = 0 ∨ w = 1 ∨ w = 2 ∨ w = 3 ∨ w = 4) with rfl | rfl | rfl | rfl | rfl
  · obtain ⟨g1, g2⟩ := arith .add _ rfl (fun r hr => hr)
    have z0 : ((0 : Nat) : Int) = 0 := rfl
    simp (disch := first | omega | assumption) only [C.num_part64_gos, T.tv, ↓reduceIte, Nat.reduceEqDiff, reduceCtorEq, Nat.reduceLeDiff, Nat.reducePow, Int.reducePow, Int.reduceToNat, Nat.reduceAdd, z0]
    refine eff_farith rfl rfl rfl (fun z hz => ?_) (fun hz r hr => ?_)
    · simp (disch := first | omega | assumption) only [C.num_part64_gos, T.tv, ↓reduceIte, Nat.reduceEqDiff, reduceCtorEq, Nat.reduceLeDiff, Nat.reducePow, Int.reducePow, Int.reduceToNat, Nat.reduceAdd]
      exact ⟨z, g1 z hz, rfl⟩
    · simp (disch := first | omega | assumption) only [C.num_part64_gos, T.tv, ↓reduceIte, Nat.reduceEqDiff, reduceCtorEq, Nat.reduceLeDiff, Nat.reducePow, Int.reducePow, Int.reduceToNat, Nat.reduceAdd]
      exact ⟨r, g2 hz r hr, rfl⟩
  · obtain ⟨g1, g2⟩ := arith .sub _ rfl (fun r hr => hr)
    have z0 : ((1 : Nat) : Int) = 1 := rfl
    have z1 : ¬ (1 : Int) = 0 := by decide
    simp (disch := first | omega | assumption) only [C.num_part64_gos, T.tv, ↓reduceIte, Nat.reduceEqDiff, reduceCtorEq, Nat.reduceLeDiff, Nat.reducePow, Int.reducePow, Int.reduceToNat, Nat.reduceAdd, z0, z1]
    refine eff_farith rfl rfl rfl (fun z hz => ?_) (fun hz r hr => ?_)
    · simp (disch := first | omega | assumption) only [C.num_part64_gos, T.tv, ↓reduceIte, Nat.reduceEqDiff, reduceCtorEq, Nat.reduceLeDiff, Nat.reducePow, Int.reducePow, Int.reduceToNat, Nat.reduceAdd]
      exact ⟨z, g1 z hz, rfl⟩
    · simp (disch := first | omega | assumption) only [C.num_part64_gos, T.tv, ↓reduceIte, Nat.reduceEqDiff, reduceCtorEq, Nat.reduceLeDiff, Nat.reducePow, Int.reducePow, Int.reduceToNat, Nat.reduceAdd]
      exact ⟨r, g2 hz r hr, rfl⟩
  · obtain ⟨g1, g2⟩ := arith .mul _ rfl (fun r hr => hr)
    have z0 : ((2 : Nat) : Int) = 2 := rfl
    have z1 : ¬ (2 : Int) = 0 := by decide
    have z2 : ¬ (2 : Int) = 1 := by decide
    simp (disch := first | omega | assumption) only [C.num_part64_gos, T.tv, ↓reduceIte, Nat.reduceEqDiff, reduceCtorEq, Nat.reduceLeDiff, Nat.reducePow, Int.reducePow, Int.reduceToNat, Nat.reduceAdd, z0, z1, z2]
    refine eff_farith rfl rfl rfl (fun z hz => ?_) (fun hz r hr => ?_)
    · simp (disch := first | omega | assumption) only [C.num_part64_gos, T.tv, ↓reduceIte, Nat.reduceEqDiff, reduceCtorEq, Nat.reduceLeDiff, Nat.reducePow, Int.reducePow, Int.reduceToNat, Nat.reduceAdd]
      exact ⟨z, g1 z hz, rfl⟩
    · simp (disch := first | omega | assumption) only [C.num_part64_gos, T.tv, ↓reduceIte, Nat.reduceEqDiff, reduceCtorEq, Nat.reduceLeDiff, Nat.reducePow, Int.reducePow, Int.reduceToNat, Nat.reduceAdd]
      exact ⟨r, g2 hz r hr, rfl⟩
  · obtain ⟨g1, g2⟩ := arith .quo _ rfl (fun r hr => hr)
    have z0 : ((3 : Nat) : Int) = 3 := rfl
    have z1 : ¬ (3 : Int) = 0 := by decide
    have z2 : ¬ (3 : Int) = 1 := by decide
    have z3 : ¬ (3 : Int) = 2 := by decide
    simp (disch := first | omega | assumption) only [C.num_part64_gos, T.tv, ↓reduceIte, Nat.reduceEqDiff, reduceCtorEq, Nat.reduceLeDiff, Nat.reducePow, Int.reducePow, Int.reduceToNat, Nat.reduceAdd, z0, z1, z2, z3]
    refine eff_farith rfl rfl rfl (fun z hz => ?_) (fun hz r hr => ?_)
    · simp (disch := first | omega | assumption) only [C.num_part64_gos, T.tv, ↓reduceIte, Nat.reduceEqDiff, reduceCtorEq, Nat.reduceLeDiff, Nat.reducePow, Int.reducePow, Int.reduceToNat, Nat.reduceAdd]
      exact ⟨z, g1 z hz, rfl⟩
    · simp (disch := first | omega | assumption) only [C.num_part64_gos, T.tv, ↓reduceIte, Nat.reduceEqDiff, reduceCtorEq, Nat.reduceLeDiff, Nat.reducePow, Int.reducePow, Int.reduceToNat, Nat.reduceAdd]
      exact ⟨r, g2 hz r hr, rfl⟩
  · have z0 : ((4 : Nat) : Int) = 4 := rfl
    have z1 : ¬ (4 : Int) = 0 := by decide
    have z2 : ¬ (4 : Int) = 1 := by decide
    have z3 : ¬ (4 : Int) = 2 := by decide
    have z4 : ¬ (4 : Int) = 3 := by decide
    simp (disch := first | omega | assumption) only [C.num_part64_gos, T.tv, ↓reduceIte, Nat.reduceEqDiff, reduceCtorEq, Nat.reduceLeDiff, Nat.reducePow, Int.reducePow, Int.reduceToNat, Nat.reduceAdd, z0, z1, z2, z3, z4]
    refine eff_callF rfl ((Mod_any hx hy).mono ?_)
    rintro v1 h1 ⟨rfl, r, hr, rfl⟩
    simp (disch := first | omega | assumption) only [C.num_part64_gos, T.tv, ↓reduceIte, Nat.reduceEqDiff, reduceCtorEq, Nat.reduceLeDiff, Nat.reducePow, Int.reducePow, Int.reduceToNat, Nat.reduceAdd]
    exact ⟨r, mod_PR hx hr, rfl⟩
/-! ### What the program gives of doubles -/
theorem real64_any {w x y : Nat} {r : Nat} (h : PR D w x y r) : (if D.infRung < rung D r then nanW D else r) = opS D w x y := by
  rcases h with ⟨h1, h2⟩ | ⟨h1, h2⟩
  · rw [if_pos h1, h2]
  · rw [if_neg (by omega), h2]
end Go.Proofs.Ytedleaeohbjfnaa

/- The five operations of the program on singles; rests by way of doubles. No condition. -/
import Derived.Test.YtedleaeohbjfnaaQX
import Derived.Laws.FloatBits
namespace Go.Proofs.Ytedleaeohbjfnaa
open Go.Vc Go.Num
set_option maxRecDepth 100000
set_option linter.unusedSimpArgs false
set_option linter.unusedVariables false

/-! ### From singles to doubles and back -/
/-- So much is the least place of doubles lower. -/
def e9 : Nat := 925
theorem e9_eq : e9 = 925 := rfl
theorem SG_least : SG.leastPlace = -149 := by decide
/-- A single and the double that it becomes. -/
def CL (x X : Nat) : Prop :=
  (2139095040 < rung SG x ∧ 9218868437227405312 < rung D X) ∨ (rung SG x = 2139095040 ∧ rung D X = 9218868437227405312) ∨
  (rung SG x < 2139095040 ∧ rung D X < 9218868437227405312 ∧ V D (rung D X) = V SG (rung SG x) * 2 ^ e9 ∧ sgn D X = sgn SG x)
theorem up_num {x : Nat} (h : rung SG x < 2139095040) : ∃ X, D.write (SG.read x) = X ∧ X < 18446744073709551616 ∧ CL x X := by
  have h9 := e9_eq
  have hr := read_rung SG (x := x) (by rw [SG_inf]; exact h)
  rw [hr, write_number]
  unfold closeP
  have hpl : plc SG (rung SG x) ≤ 253 := by
    unfold plc
    split
    · omega
    · have : SG.fractionBits = 23 := rfl
      rw [this, show (2 : Nat) ^ 23 = 8388608 by decide]; omega
  have hd : digs SG (rung SG x) < 2 ^ 24 := digs_lt SG _
  have hb : digs SG (rung SG x) * 2 ^ (e9 + plc SG (rung SG x)) < V D D.infRung := by
    rw [V_D_inf]
    generalize hN : 2047 - 1 = N
    rw [Nat.add_zero, show (4503599627370496 : Nat) = 2 ^ 52 by decide, ← Nat.pow_add]
    have h1 : digs SG (rung SG x) * 2 ^ (e9 + plc SG (rung SG x)) < 2 ^ 24 * 2 ^ (e9 + plc SG (rung SG x)) := Nat.mul_lt_mul_of_pos_right hd (two_pos _)
    rw [← Nat.pow_add] at h1
    exact Nat.lt_of_lt_of_le h1 (Nat.pow_le_pow_right (by decide) (by omega))
  obtain ⟨s, hs, hv⟩ := rep (f := D) (n := digs SG (rung SG x)) (j := e9 + plc SG (rung SG x)) (Nat.lt_of_lt_of_le hd (Nat.pow_le_pow_right (by decide) (by rw [D_m]; decide))) hb
  have e : rnd D (digs SG (rung SG x)) (SG.leastPlace + (plc SG (rung SG x) : Int)) false = s := by
    rw [show SG.leastPlace + (plc SG (rung SG x) : Int) = D.leastPlace + ((e9 + plc SG (rung SG x) : Nat) : Int) by rw [SG_least, D_least]; omega, rnd_units, ← hv, rnd_V (by omega)]
  rw [e]
  rw [D_inf] at hs
  have hw := sgn_word D (sgn SG x) (r := s) (by rw [D_sw]; omega)
  refine ⟨_, rfl, ?_, .inr (.inr ⟨h, by rw [hw.2]; exact hs, ?_, hw.1⟩)⟩
  · unfold Ieee.Format.word
    rw [D_sw]
    split <;> omega
  · rw [hw.2, hv, V_digs SG, Nat.mul_assoc, ← Nat.pow_add, Nat.add_comm]
theorem up_inf {x : Nat} (h : rung SG x = 2139095040) : ∃ X, D.write (SG.read x) = X ∧ X < 18446744073709551616 ∧ CL x X := by
  have h9 := e9_eq
  have hr := read_inf SG (by decide) (x := x) (by rw [SG_inf]; exact h)
  rw [hr]
  have hw := sgn_word D (sgn SG x) (r := D.infRung) (by decide)
  refine ⟨D.word (sgn SG x) D.infRung, rfl, ?_, .inr (.inl ⟨h, by rw [hw.2]; exact D_inf⟩)⟩
  unfold Ieee.Format.word
  rw [D_sw, D_inf]
  split <;> omega
theorem down_num {r s t : Nat} {sg : Bool} (hr : r = D.word sg s) (hs : s < 9218868437227405312) (ht : t < 2139095040) (hv : V D s = V SG t * 2 ^ e9) :
    (D.read r).isNaN = false ∧ (SG.read (SG.write (D.read r))).isInfinity = false ∧ SG.write (D.read r) = SG.word sg t := by
  have h9 := e9_eq
  have hw := sgn_word D sg (r := s) (by rw [D_sw]; omega)
  rw [← hr] at hw
  have hrr := read_rung D (x := r) (by rw [hw.2, D_inf]; exact hs)
  rw [hw.1, hw.2] at hrr
  rw [hrr]
  have e : SG.write (.number sg (digs D s) (D.leastPlace + (plc D s : Int))) = SG.word sg t := by
    rw [write_number]
    unfold closeP
    congr 1
    rw [V_digs D s] at hv
    by_cases c : e9 ≤ plc D s
    · refine rnd_at (plc D s - e9) (by rw [SG_inf]; omega) (.inr ⟨by rw [SG_least, D_least]; omega, ?_⟩)
      apply Nat.eq_of_mul_eq_mul_right (two_pos e9)
      rw [← hv, Nat.mul_assoc, ← Nat.pow_add]
      congr 2; omega
    · refine rnd_at (e9 - plc D s) (by rw [SG_inf]; omega) (.inl ⟨by rw [SG_least, D_least]; omega, ?_⟩)
      apply Nat.eq_of_mul_eq_mul_right (two_pos (plc D s))
      rw [hv, Nat.mul_assoc, ← Nat.pow_add]
      congr 2; omega
  rw [e]
  have hz := sgn_word SG sg (r := t) (by rw [SG_sw]; omega)
  rw [read_rung SG (by rw [hz.2, SG_inf]; exact ht)]
  exact ⟨rfl, rfl, rfl⟩
/-- The rest of two doubles that were singles. -/
theorem mod_down {x y X Y r : Nat} (hX : CL x X) (hY : CL y Y) (hXb : X < 18446744073709551616) (h : ModR X Y r) :
    (r = 9221120237041090561 ∧ modS SG x y = nanW SG) ∨ ∃ sg s t, r = D.word sg s ∧ s < 9218868437227405312 ∧ t < 2139095040 ∧ V D s = V SG t * 2 ^ e9 ∧ modS SG x y = SG.word sg t := by
  have zero : ∀ u U : Nat, V D U = V SG u * 2 ^ e9 → (U = 0 ↔ u = 0) := by
    intro u U hu
    have p := two_pos e9
    constructor
    · rintro rfl
      rw [V_zero] at hu
      have : V SG u = 0 := by
        rcases Nat.mul_eq_zero.1 hu.symm with h | h
        · exact h
        · omega
      apply Nat.eq_zero_of_not_pos
      intro hp
      have := V_lt (f := SG) hp
      omega
    · rintro rfl
      rw [V_zero, Nat.zero_mul] at hu
      apply Nat.eq_zero_of_not_pos
      intro hp
      have := V_lt (f := D) hp
      omega
  unfold ModR at h
  unfold modS
  rw [SG_inf]
  have c1 : (9218868437227405312 ≤ rung D X ∨ 9218868437227405312 < rung D Y ∨ rung D Y = 0) ↔ (2139095040 ≤ rung SG x ∨ 2139095040 < rung SG y ∨ rung SG y = 0) := by
    rcases hX with ⟨a, b⟩ | ⟨a, b⟩ | ⟨a, b, _, _⟩ <;> rcases hY with ⟨c, d⟩ | ⟨c, d⟩ | ⟨c, d, e, _⟩
    all_goals first
      | (have z := zero _ _ e; omega)
      | omega
  by_cases c : 9218868437227405312 ≤ rung D X ∨ 9218868437227405312 < rung D Y ∨ rung D Y = 0
  · rw [if_pos c] at h
    rw [if_pos (c1.1 c)]
    exact .inl ⟨h, rfl⟩
  · rw [if_neg c] at h
    rw [if_neg (fun k => c (c1.2 k))]
    have hx3 : rung SG x < 2139095040 ∧ rung D X < 9218868437227405312 ∧ V D (rung D X) = V SG (rung SG x) * 2 ^ e9 ∧ sgn D X = sgn SG x := by
      rcases hX with ⟨a, b⟩ | ⟨a, b⟩ | hX
      · omega
      · omega
      · exact hX
    obtain ⟨x1, x2, x3, x4⟩ := hx3
    by_cases c2 : rung D Y = 9218868437227405312
    · have c3 : rung SG y = 2139095040 := by rcases hY with ⟨a, b⟩ | ⟨a, b⟩ | ⟨a, b, _, _⟩ <;> omega
      rw [if_pos c2] at h
      rw [if_pos c3]
      have hXw := word_of D (x := X) (by show X < 2 ^ 64; rw [show (2 : Nat) ^ 64 = 18446744073709551616 by decide]; exact hXb)
      exact .inr ⟨sgn SG x, rung D X, rung SG x, by rw [h, ← x4]; exact hXw, x2, x1, x3, rfl⟩
    · have hy3 : rung SG y < 2139095040 ∧ rung D Y < 9218868437227405312 ∧ V D (rung D Y) = V SG (rung SG y) * 2 ^ e9 := by
        rcases hY with ⟨a, b⟩ | ⟨a, b⟩ | ⟨a, b, e, _⟩
        · omega
        · omega
        · exact ⟨a, b, e⟩
      obtain ⟨y1, y2, y3⟩ := hy3
      rw [if_neg c2] at h
      rw [if_neg (by omega)]
      obtain ⟨s, s1, s2, s3⟩ := h
      have hyp : 0 < V SG (rung SG y) := by
        have h0 : rung SG y ≠ 0 := fun k => c (c1.2 (.inr (.inr k)))
        have := V_lt (f := SG) (r := 0) (s := rung SG y) (by omega)
        omega
      obtain ⟨t, t1, t2⟩ := rep_mod (f := SG) (r := rung SG x) (q := rung SG y) (by rw [SG_inf]; exact x1) hyp
      rw [SG_inf] at t1
      refine .inr ⟨sgn SG x, s, t, by rw [s3, x4], s1, t1, ?_, ?_⟩
      · rw [s2, x3, y3, Nat.mul_mod_mul_right, t2]
      · rw [← t2, rnd_V (by rw [SG_inf]; omega)]
theorem up_any {τ ρ : Env} {h : Heap} {K : Value → Heap → Prop} {ty : TypeId} {o : Operand} {x : Nat} (ho : evo τ ρ o = some (F32 x)) (H : ∀ X, X < 18446744073709551616 → CL x X → K (F64 X) h) :
    eff Try.prog (.convert 29 31 o) ty τ ρ h K := by
  refine eff_fconv (k := .f32) (k' := .f64) Try.underlying29 Try.underlying31 ho (by decide) ?_ ?_
  · intro hn r hr
    have hx : 2139095040 < rung SG x := by
      apply Nat.lt_of_not_le
      intro hle
      rcases Nat.lt_or_eq_of_le hle with h1 | h1
      · rw [show FloatKind.f32.format.read x = SG.read x from rfl, read_rung SG (by rw [SG_inf]; exact h1)] at hn; cases hn
      · rw [show FloatKind.f32.format.read x = SG.read x from rfl, read_inf SG (by decide) (by rw [SG_inf]; exact h1)] at hn; cases hn
    obtain ⟨n1, n2⟩ := hr
    have n1' : D.infRung < rung D r := n1
    have n2' : r < 2 ^ 64 := n2
    rw [D_inf] at n1'
    rw [show (2 : Nat) ^ 64 = 18446744073709551616 by decide] at n2'
    exact H r n2' (.inl ⟨hx, n1'⟩)
  · intro hn
    have hx : ¬ 2139095040 < rung SG x := by
      intro hlt
      rw [show FloatKind.f32.format.read x = SG.read x from rfl, read_nan SG (by decide) (by rw [SG_inf]; exact hlt)] at hn; cases hn
    rcases Nat.lt_or_eq_of_le (Nat.le_of_not_lt hx) with h1 | h1
    · obtain ⟨X, e, X1, X2⟩ := up_num h1
      refine ⟨.inr ?_, ?_⟩
      · show (D.read (D.write (SG.read x))).isInfinity = false
        rw [e]
        rcases X2 with ⟨a, _⟩ | ⟨a, _⟩ | ⟨_, b, _, _⟩
        · omega
        · omega
        · rw [read_rung D (by rw [D_inf]; exact b)]; rfl
      · show K (F64 (D.write (SG.read x))) h
        rw [e]; exact H X X1 X2
    · obtain ⟨X, e, X1, X2⟩ := up_inf h1
      refine ⟨.inl ?_, ?_⟩
      · show (SG.read x).isInfinity = true
        rw [read_inf SG (by decide) (by rw [SG_inf]; exact h1)]; rfl
      · show K (F64 (D.write (SG.read x))) h
        rw [e]; exact H X X1 X2
theorem down_any {τ ρ : Env} {h : Heap} {K : Value → Heap → Prop} {ty : TypeId} {o : Operand} {x y r : Nat} (ho : evo τ ρ o = some (F64 r))
    (hr : (r = 9221120237041090561 ∧ modS SG x y = nanW SG) ∨ ∃ sg s t, r = D.word sg s ∧ s < 9218868437227405312 ∧ t < 2139095040 ∧ V D s = V SG t * 2 ^ e9 ∧ modS SG x y = SG.word sg t)
    (H : ∀ z, z < 4294967296 → PR SG 4 x y z → K (F32 z) h) : eff Try.prog (.convert 31 29 o) ty τ ρ h K := by
  have ho4 : opS SG 4 x y = modS SG x y := by
    unfold opS; rw [if_neg (by decide), if_neg (by decide), if_neg (by decide), if_neg (by decide)]
  refine eff_fconv (k := .f64) (k' := .f32) Try.underlying31 Try.underlying29 ho (by decide) ?_ ?_
  · intro hn z hz
    obtain ⟨n1, n2⟩ := hz
    have n2' : z < 2 ^ 32 := n2
    rw [show (2 : Nat) ^ 32 = 4294967296 by decide] at n2'
    rcases hr with ⟨_, h2⟩ | ⟨sg, s, t, r1, r2, r3, r4, r5⟩
    · exact H z n2' (.inl ⟨n1, by rw [ho4, h2]⟩)
    · have := (down_num r1 r2 r3 r4).1
      rw [show FloatKind.f64.format.read r = D.read r from rfl, this] at hn; cases hn
  · intro hn
    rcases hr with ⟨h1, h2⟩ | ⟨sg, s, t, r1, r2, r3, r4, r5⟩
    · have h7 : rung D r = 9221120237041090561 := by rw [h1]; exact (rung_pos (by decide)).1
      rw [show FloatKind.f64.format.read r = D.read r from rfl, read_nan D (by decide) (by rw [D_inf, h7]; decide)] at hn; cases hn
    · obtain ⟨d1, d2, d3⟩ := down_num r1 r2 r3 r4
      refine ⟨.inr d2, ?_⟩
      show K (F32 (SG.write (D.read r))) h
      rw [d3]
      have hz := sgn_word SG sg (r := t) (by rw [SG_sw]; omega)
      refine H _ ?_ (.inr ⟨by rw [hz.2, SG_inf]; omega, by rw [ho4, r5]⟩)
      unfold Ieee.Format.word
      rw [SG_sw]
      split <;> omega
theorem part32_any {h : Heap} {w x y : Nat} (hw : w ≤ 4) (hx : x < 4294967296) (hy : y < 4294967296) :
    HCalls Try.prog 22 #[.int .u8 (w : Int), F32 x, F32 y] h fun v h' => h' = h ∧ ∃ r, r < 4294967296 ∧ PR SG w x y r ∧ v = F32 r := by
  refine C.num_part32_calls (args := [.int .u8 (w : Int), F32 x, F32 y]) rfl ?_
  have hb : SG.infRung < SG.signWeight := by decide
  have fl : ∀ (o : BinOp) (r : Nat), fop o SG x y = some r → r < 4294967296 := by
    intro o r hr
    have h1 : r < 2 ^ 32 := by
      unfold fop at hr
      split at hr
      · exact SG.add_lt hr
      · exact SG.sub_lt hr
      · exact SG.mul_lt hr
      · exact SG.div_lt hr
      · cases hr
    rw [show (2 : Nat) ^ 32 = 4294967296 by decide] at h1; exact h1
  have arith : ∀ (o : BinOp) (z : Option Nat), z = fop o FloatKind.f32.format x y → (∀ r, z.getD (nanW SG) = r → opS SG w x y = r) → (∀ r, z = some r → r < 4294967296 ∧ PR SG w x y r) ∧ (z = none → ∀ r, NaNw FloatKind.f32.format r → r < 4294967296 ∧ PR SG w x y r) := by
    intro o z hz ho
    refine ⟨fun r hr => ⟨fl o r (show fop o SG x y = some r by rw [← hr]; exact hz.symm), .inr ⟨fop_le hb (show fop o SG x y = some r by rw [← hr]; exact hz.symm), ?_⟩⟩, fun hn r hr => ⟨?_, .inl ⟨hr.1, ?_⟩⟩⟩
    · exact (ho r (by rw [hr]; rfl)).symm
    · have n2' : r < 2 ^ 32 := hr.2
      rw [show (2 : Nat) ^ 32 = 4294967296 by decide] at n2'; exact n2'
    · exact ho (nanW SG) (by rw [hn]; rfl)
  rcases (by omega : w = 0 ∨ w = 1 ∨ w = 2 ∨ w = 3 ∨ w = 4) with rfl | rfl | rfl | rfl | rfl
  · obtain ⟨g1, g2⟩ := arith .add _ rfl (fun r hr => hr)
    have z0 : ((0 : Nat) : Int) = 0 := rfl
    simp (disch := first | omega | assumption) only [C.num_part32_gos, T.tv, ↓reduceIte, Nat.reduceEqDiff, reduceCtorEq, Nat.reduceLeDiff, Nat.reducePow, Int.reducePow, Int.reduceToNat, Nat.reduceAdd, z0, Int.reduceEq]
    refine eff_farith rfl rfl rfl (fun z hz => ?_) (fun hz r hr => ?_)
    · simp (disch := first | omega | assumption) only [C.num_part32_gos, T.tv, ↓reduceIte, Nat.reduceEqDiff, reduceCtorEq, Nat.reduceLeDiff, Nat.reducePow, Int.reducePow, Int.reduceToNat, Nat.reduceAdd]
      exact ⟨z, (g1 z hz).1, (g1 z hz).2, rfl⟩
    · simp (disch := first | omega | assumption) only [C.num_part32_gos, T.tv, ↓reduceIte, Nat.reduceEqDiff, reduceCtorEq, Nat.reduceLeDiff, Nat.reducePow, Int.reducePow, Int.reduceToNat, Nat.reduceAdd]
      exact ⟨r, (g2 hz r hr).1, (g2 hz r hr).2, rfl⟩
  · obtain ⟨g1, g2⟩ := arith .sub _ rfl (fun r hr => hr)
    have z0 : ((1 : Nat) : Int) = 1 := rfl
    simp (disch := first | omega | assumption) only [C.num_part32_gos, T.tv, ↓reduceIte, Nat.reduceEqDiff, reduceCtorEq, Nat.reduceLeDiff, Nat.reducePow, Int.reducePow, Int.reduceToNat, Nat.reduceAdd, z0, Int.reduceEq]
    refine eff_farith rfl rfl rfl (fun z hz => ?_) (fun hz r hr => ?_)
    · simp (disch := first | omega | assumption) only [C.num_part32_gos, T.tv, ↓reduceIte, Nat.reduceEqDiff, reduceCtorEq, Nat.reduceLeDiff, Nat.reducePow, Int.reducePow, Int.reduceToNat, Nat.reduceAdd]
      exact ⟨z, (g1 z hz).1, (g1 z hz).2, rfl⟩
    · simp (disch := first | omega | assumption) only [C.num_part32_gos, T.tv, ↓reduceIte, Nat.reduceEqDiff, reduceCtorEq, Nat.reduceLeDiff, Nat.reducePow, Int.reducePow, Int.reduceToNat, Nat.reduceAdd]
      exact ⟨r, (g2 hz r hr).1, (g2 hz r hr).2, rfl⟩
  · obtain ⟨g1, g2⟩ := arith .mul _ rfl (fun r hr => hr)
    have z0 : ((2 : Nat) : Int) = 2 := rfl
    simp (disch := first | omega | assumption) only [C.num_part32_gos, T.tv, ↓reduceIte, Nat.reduceEqDiff, reduceCtorEq, Nat.reduceLeDiff, Nat.reducePow, Int.reducePow, Int.reduceToNat, Nat.reduceAdd, z0, Int.reduceEq]
    refine eff_farith rfl rfl rfl (fun z hz => ?_) (fun hz r hr => ?_)
    · simp (disch := first | omega | assumption) only [C.num_part32_gos, T.tv, ↓reduceIte, Nat.reduceEqDiff, reduceCtorEq, Nat.reduceLeDiff, Nat.reducePow, Int.reducePow, Int.reduceToNat, Nat.reduceAdd]
      exact ⟨z, (g1 z hz).1, (g1 z hz).2, rfl⟩
    · simp (disch := first | omega | assumption) only [C.num_part32_gos, T.tv, ↓reduceIte, Nat.reduceEqDiff, reduceCtorEq, Nat.reduceLeDiff, Nat.reducePow, Int.reducePow, Int.reduceToNat, Nat.reduceAdd]
      exact ⟨r, (g2 hz r hr).1, (g2 hz r hr).2, rfl⟩
  · obtain ⟨g1, g2⟩ := arith .quo _ rfl (fun r hr => hr)
    have z0 : ((3 : Nat) : Int) = 3 := rfl
    simp (disch := first | omega | assumption) only [C.num_part32_gos, T.tv, ↓reduceIte, Nat.reduceEqDiff, reduceCtorEq, Nat.reduceLeDiff, Nat.reducePow, Int.reducePow, Int.reduceToNat, Nat.reduceAdd, z0, Int.reduceEq]
    refine eff_farith rfl rfl rfl (fun z hz => ?_) (fun hz r hr => ?_)
    · simp (disch := first | omega | assumption) only [C.num_part32_gos, T.tv, ↓reduceIte, Nat.reduceEqDiff, reduceCtorEq, Nat.reduceLeDiff, Nat.reducePow, Int.reducePow, Int.reduceToNat, Nat.reduceAdd]
      exact ⟨z, (g1 z hz).1, (g1 z hz).2, rfl⟩
    · simp (disch := first | omega | assumption) only [C.num_part32_gos, T.tv, ↓reduceIte, Nat.reduceEqDiff, reduceCtorEq, Nat.reduceLeDiff, Nat.reducePow, Int.reducePow, Int.reduceToNat, Nat.reduceAdd]
      exact ⟨r, (g2 hz r hr).1, (g2 hz r hr).2, rfl⟩
  · have z0 : ((4 : Nat) : Int) = 4 := rfl
    simp (disch := first | omega | assumption) only [C.num_part32_gos, T.tv, ↓reduceIte, Nat.reduceEqDiff, reduceCtorEq, Nat.reduceLeDiff, Nat.reducePow, Int.reducePow, Int.reduceToNat, Nat.reduceAdd, z0, Int.reduceEq]
    refine up_any rfl fun X X1 X2 => ?_
    simp (disch := first | omega | assumption) only [C.num_part32_gos, T.tv, ↓reduceIte, Nat.reduceEqDiff, reduceCtorEq, Nat.reduceLeDiff, Nat.reducePow, Int.reducePow, Int.reduceToNat, Nat.reduceAdd]
    refine up_any rfl fun Y Y1 Y2 => ?_
    simp (disch := first | omega | assumption) only [C.num_part32_gos, T.tv, ↓reduceIte, Nat.reduceEqDiff, reduceCtorEq, Nat.reduceLeDiff, Nat.reducePow, Int.reducePow, Int.reduceToNat, Nat.reduceAdd]
    refine eff_callF rfl ((Mod_any X1 Y1).mono ?_)
    rintro v1 h1 ⟨rfl, r, hr, rfl⟩
    simp (disch := first | omega | assumption) only [C.num_part32_gos, T.tv, ↓reduceIte, Nat.reduceEqDiff, reduceCtorEq, Nat.reduceLeDiff, Nat.reducePow, Int.reducePow, Int.reduceToNat, Nat.reduceAdd]
    refine down_any rfl (mod_down X2 Y2 X1 hr) fun z z1 z2 => ?_
    simp (disch := first | omega | assumption) only [C.num_part32_gos, T.tv, ↓reduceIte, Nat.reduceEqDiff, reduceCtorEq, Nat.reduceLeDiff, Nat.reducePow, Int.reducePow, Int.reduceToNat, Nat.reduceAdd]
    exact ⟨z, z1, z2, rfl⟩
end Go.Proofs.Ytedleaeohbjfnaa

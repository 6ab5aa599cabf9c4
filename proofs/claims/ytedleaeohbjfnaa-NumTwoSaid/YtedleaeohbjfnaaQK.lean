/- The reference's open: bits taken apart. No condition. -/
import Derived.Test.YtedleaeohbjfnaaQJ
namespace Go.Proofs.Ytedleaeohbjfnaa
open Go.Vc Go.Num
set_option maxRecDepth 100000
set_option linter.unusedSimpArgs false
set_option linter.unusedVariables false

theorem ext_fr {a b c : Heap} {g : Nat} (H : Ext a b) (K : Fr (fun k => k = g) b c) (hg : a.size ≤ g) : Ext a c where
  size := Nat.le_trans H.size K.size
  same := fun k hk _ => by
    have h1 := H.same k hk (fun h => h)
    have hkb : k < b.size := Nat.lt_of_lt_of_le hk H.size
    rw [K.same k hkb (by omega), h1]
abbrev nC (n : Nm) : Array Value := #[.bool n.nan, .bool n.inf, .bool n.neg, .int .u64 (n.m : Int), .int .i64 n.e]
/-- A number in its block. -/
structure NB (h : Heap) (g : Nat) (n : Nm) : Prop where
  b : h[g]? = some (.cells (nC n) 52 (0, 0))
theorem NB.c0 {h : Heap} {g : Nat} {n : Nm} (H : NB h g n) : cellAt h ⟨g, 0, none⟩ = some (.bool n.nan) := by rw [cellAt_of H.b]; rfl
theorem NB.c1 {h : Heap} {g : Nat} {n : Nm} (H : NB h g n) : cellAt h ⟨g, 1, none⟩ = some (.bool n.inf) := by rw [cellAt_of H.b]; rfl
theorem NB.c2 {h : Heap} {g : Nat} {n : Nm} (H : NB h g n) : cellAt h ⟨g, 2, none⟩ = some (.bool n.neg) := by rw [cellAt_of H.b]; rfl
theorem NB.c3 {h : Heap} {g : Nat} {n : Nm} (H : NB h g n) : cellAt h ⟨g, 3, none⟩ = some (.int .u64 (n.m : Int)) := by rw [cellAt_of H.b]; rfl
theorem NB.c4 {h : Heap} {g : Nat} {n : Nm} (H : NB h g n) : cellAt h ⟨g, 4, none⟩ = some (.int .i64 n.e) := by rw [cellAt_of H.b]; rfl
theorem NB.ld {h : Heap} {g : Nat} {n : Nm} (H : NB h g n) : ld Try.prog 52 ⟨g, 0, none⟩ h = some (nV n) :=
  ld_agg T.ag_52 (Rd_block (vs := (nC n).toList) H.b) rfl
theorem NB.ext {h h' : Heap} {g : Nat} {n : Nm} (H : NB h g n) (x : Ext h h') : NB h' g n := ⟨Fr_blk x H.b _root_.id⟩
theorem NB.fr {h h' : Heap} {g k : Nat} {n : Nm} (H : NB h g n) (x : Fr (fun j => j = k) h h') (hne : g ≠ k) : NB h' g n := ⟨Fr_blk x H.b hne⟩
theorem KB.fr {h h' : Heap} {g k m e : Nat} (H : KB h g m e) (x : Fr (fun j => j = k) h h') (hne : g ≠ k) : KB h' g m e := ⟨Fr_blk x H.b hne⟩
theorem NB.push (h : Heap) (n : Nm) : NB (h.push (.cells (nC n) 52)) h.size n := ⟨by simp⟩
section
variable {τ ρ : Env} {h : Heap} {K : Value → Heap → Prop} {ty : TypeId} {x y : Operand} {g : Nat} {n : Nm}
/-- A field of a number is set. -/
theorem NB.st4 {j : Nat} {b : Bool} {n' : Nm} (H : NB h g n) (hx : evo τ ρ x = some (.pointer (some ⟨g, j, none⟩))) (hy : evo τ ρ y = some (.bool b)) (hj : j < 5)
    (hn : ((nC n).toList.take j ++ [Value.bool b] ++ (nC n).toList.drop (j + 1)).toArray = nC n') (HK : ∀ h', Fr (fun k => k = g) h h' → NB h' g n' → K undef h') : eff Try.prog (.store 4 x y) ty τ ρ h K :=
  eff_storeN_zz T.zr_4 hx hy rfl (by intro u hu; simp [Value.cells] at hu; subst hu; rfl) H.b (by simp; omega) (by intro j _ _; simp) fun h' hf hb => HK h' hf ⟨by rw [hb, ← hn]; rfl⟩
theorem NB.st22 {j : Nat} {b : Int} {n' : Nm} (H : NB h g n) (hx : evo τ ρ x = some (.pointer (some ⟨g, j, none⟩))) (hy : evo τ ρ y = some (.int .u64 b)) (hj : j < 5)
    (hn : ((nC n).toList.take j ++ [Value.int .u64 b] ++ (nC n).toList.drop (j + 1)).toArray = nC n') (HK : ∀ h', Fr (fun k => k = g) h h' → NB h' g n' → K undef h') : eff Try.prog (.store 22 x y) ty τ ρ h K :=
  eff_storeN_zz T.zr_22 hx hy rfl (by intro u hu; simp [Value.cells] at hu; subst hu; rfl) H.b (by simp; omega) (by intro j _ _; simp) fun h' hf hb => HK h' hf ⟨by rw [hb, ← hn]; rfl⟩
theorem NB.st3 {j : Nat} {b : Int} {n' : Nm} (H : NB h g n) (hx : evo τ ρ x = some (.pointer (some ⟨g, j, none⟩))) (hy : evo τ ρ y = some (.int .i64 b)) (hj : j < 5)
    (hn : ((nC n).toList.take j ++ [Value.int .i64 b] ++ (nC n).toList.drop (j + 1)).toArray = nC n') (HK : ∀ h', Fr (fun k => k = g) h h' → NB h' g n' → K undef h') : eff Try.prog (.store 3 x y) ty τ ρ h K :=
  eff_storeN_zz T.zr_3 hx hy rfl (by intro u hu; simp [Value.cells] at hu; subst hu; rfl) H.b (by simp; omega) (by intro j _ _; simp) fun h' hf hb => HK h' hf ⟨by rw [hb, ← hn]; rfl⟩
theorem NB.st52 {n' : Nm} (H : NB h g n) (hx : evo τ ρ x = some (.pointer (some ⟨g, 0, none⟩))) (hy : evo τ ρ y = some (nV n'))
    (HK : ∀ h', Fr (fun k => k = g) h h' → NB h' g n' → K undef h') : eff Try.prog (.store 52 x y) ty τ ρ h K :=
  eff_storeN_z T.zr_52 hx hy rfl (by intro u hu; simp [Value.cells] at hu; rcases hu with rfl | rfl | rfl | rfl | rfl <;> rfl) H.b rfl fun h' hf hb => HK h' hf ⟨by rw [hb]; rfl⟩
end
def zeroN : Nm := ⟨false, false, false, 0, 0⟩
set_option maxHeartbeats 1000000 in
theorem open_tail {h0 h : Heap} {m e x g2 g4 g7 : Nat} {u37 u50 : Value} {ex : Nat} (hk : Kd m e) (hx : x < 18446744073709551616) (E : Ext h0 h) (H : KB h g2 m e) (h4 : NB h g4 zeroN)
    (h7 : NB h g7 ⟨false, false, x / 2 ^ (m + e) % 2 == 1, x % 2 ^ m, (fmt m e).leastPlace⟩) (l4 : h0.size ≤ g4) (l7 : h0.size ≤ g7) (d1 : g2 ≠ g7) (d2 : g4 ≠ g7) (d3 : g2 ≠ g4) (hex : ex = x / 2 ^ m % 2 ^ e) :
    Cd.vc Try.prog C.k_open_t0 (retQ Try.prog [(4, some 52)] fun v h' => Ext h0 h' ∧ v = nV (openN (fmt m e) x))
      [(0, kV m e), (1, .int .u64 (x : Int)), (2, .pointer (some ⟨g2, 0, none⟩)), (4, .pointer (some ⟨g4, 0, none⟩)), (5, .int .u64 ((x % 2 ^ m : Nat) : Int)), (6, .int .i64 (ex : Int)), (7, .pointer (some ⟨g7, 0, none⟩)), (37, u37), (50, u50)] h := by
  have ho : openN (fmt m e) x = if ex = 2 ^ e - 1 then ⟨decide (x % 2 ^ m ≠ 0), decide (x % 2 ^ m = 0), x / 2 ^ (m + e) % 2 == 1, x % 2 ^ m, (fmt m e).leastPlace⟩ else if 0 < ex then ⟨false, false, x / 2 ^ (m + e) % 2 == 1, x % 2 ^ m + 2 ^ m, (ex : Int) - 1 + (fmt m e).leastPlace⟩ else ⟨false, false, x / 2 ^ (m + e) % 2 == 1, x % 2 ^ m, (fmt m e).leastPlace⟩ := by
    rw [hex]; rfl
  rw [ho, C.k_open_t0_go]
  clear ho
  have hlt : x % 2 ^ m < 2 ^ m := Nat.mod_lt _ (two_pos m)
  have hexl : ex < 2 ^ e := by rw [hex]; exact Nat.mod_lt _ (two_pos e)
  clear hex
  generalize (x / 2 ^ (m + e) % 2 == 1) = neg at *
  generalize x % 2 ^ m = fr at *
  --BODY
  generalize hlp : (fmt m e).leastPlace = lp at *
  rcases hk with ⟨rfl, rfl⟩ | ⟨rfl, rfl⟩
  · have hlt' : fr < 8388608 := hlt
    have hexl' : ex < 256 := hexl
    clear hlt hexl
    have c0 := H.c0
    have c1 := H.c1
    by_cases a1 : ex = 255
    · rw [if_pos (show ex = 2 ^ 8 - 1 by omega)]
      have a1' : (ex : Int) = 255 := by omega
      by_cases z0 : fr = 0
      · have z0' : (fr : Int) = 0 := by omega
        rw [decide_eq_false (show ¬ fr ≠ 0 by omega), decide_eq_true (show fr = 0 by omega)]
        simp (disch := first | omega | assumption) only [C.k_open_gos, T.tv, ↓reduceIte, Nat.reduceEqDiff, reduceCtorEq, Nat.reduceLeDiff, Nat.reducePow, Int.reducePow, Int.reduceToNat, Nat.reduceAdd, c0, c1, vf, cc23, cc8, cc52, cc11, Int.reduceSub, Int.reduceAdd, Int.reduceMul, a1', z0']
        refine h7.st4 (j := 0) (n' := ⟨false, false, neg, fr, _⟩) (by rfl) (by rfl) (by decide) (by rfl) fun ha fa na => ?_
        simp (disch := first | omega | assumption) only [C.k_open_gos, T.tv, ↓reduceIte, Nat.reduceEqDiff, reduceCtorEq, Nat.reduceLeDiff, Nat.reducePow, Int.reducePow, Int.reduceToNat, Nat.reduceAdd, z0']
        refine na.st4 (j := 1) (n' := ⟨false, true, neg, fr, _⟩) (by rfl) (by rfl) (by decide) (by rfl) fun hb fb nb => ?_
        have l7' := nb.ld
        simp (disch := first | omega | assumption) only [C.k_open_gos, T.tv, ↓reduceIte, Nat.reduceEqDiff, reduceCtorEq, Nat.reduceLeDiff, Nat.reducePow, Int.reducePow, Int.reduceToNat, Nat.reduceAdd, l7']
        refine NB.st52 ((h4.fr fa d2).fr fb d2) rfl rfl fun hz fz nz => ?_
        have l4' := nz.ld
        simp (disch := first | omega | assumption) only [C.k_open_gos, T.tv, ↓reduceIte, Nat.reduceEqDiff, reduceCtorEq, Nat.reduceLeDiff, Nat.reducePow, Int.reducePow, Int.reduceToNat, Nat.reduceAdd, l4']
        first | exact ext_fr (ext_fr (ext_fr E fa l7) fb l7) fz l4 | exact ⟨ext_fr (ext_fr (ext_fr E fa l7) fb l7) fz l4, rfl⟩
      · have z0' : ¬ (fr : Int) = 0 := by omega
        rw [decide_eq_true (show fr ≠ 0 by omega), decide_eq_false (show ¬ fr = 0 by omega)]
        simp (disch := first | omega | assumption) only [C.k_open_gos, T.tv, ↓reduceIte, Nat.reduceEqDiff, reduceCtorEq, Nat.reduceLeDiff, Nat.reducePow, Int.reducePow, Int.reduceToNat, Nat.reduceAdd, c0, c1, vf, cc23, cc8, cc52, cc11, Int.reduceSub, Int.reduceAdd, Int.reduceMul, a1', z0']
        refine h7.st4 (j := 0) (n' := ⟨true, false, neg, fr, _⟩) (by rfl) (by rfl) (by decide) (by rfl) fun ha fa na => ?_
        simp (disch := first | omega | assumption) only [C.k_open_gos, T.tv, ↓reduceIte, Nat.reduceEqDiff, reduceCtorEq, Nat.reduceLeDiff, Nat.reducePow, Int.reducePow, Int.reduceToNat, Nat.reduceAdd, z0']
        refine na.st4 (j := 1) (n' := ⟨true, false, neg, fr, _⟩) (by rfl) (by rfl) (by decide) (by rfl) fun hb fb nb => ?_
        have l7' := nb.ld
        simp (disch := first | omega | assumption) only [C.k_open_gos, T.tv, ↓reduceIte, Nat.reduceEqDiff, reduceCtorEq, Nat.reduceLeDiff, Nat.reducePow, Int.reducePow, Int.reduceToNat, Nat.reduceAdd, l7']
        refine NB.st52 ((h4.fr fa d2).fr fb d2) rfl rfl fun hz fz nz => ?_
        have l4' := nz.ld
        simp (disch := first | omega | assumption) only [C.k_open_gos, T.tv, ↓reduceIte, Nat.reduceEqDiff, reduceCtorEq, Nat.reduceLeDiff, Nat.reducePow, Int.reducePow, Int.reduceToNat, Nat.reduceAdd, l4']
        first | exact ext_fr (ext_fr (ext_fr E fa l7) fb l7) fz l4 | exact ⟨ext_fr (ext_fr (ext_fr E fa l7) fb l7) fz l4, rfl⟩
    rw [if_neg (show ¬ ex = 2 ^ 8 - 1 by omega)]
    have a1' : ¬ (ex : Int) = 255 := by omega
    by_cases a2 : 0 < ex
    · rw [if_pos a2]
      have a2' : (0 : Int) < (ex : Int) := by omega
      obtain ⟨w, hw⟩ : ∃ w, w = fr + 2 ^ 23 := ⟨_, rfl⟩
      rw [← hw]
      have w1 : (fr : Int) + 8388608 = ((w : Nat) : Int) := by omega
      have w2 : IntKind.u64.wrap ((w : Nat) : Int) = ((w : Nat) : Int) := wrap_u64 (by omega) (by omega)
      clear hw
      simp (disch := first | omega | assumption) only [C.k_open_gos, T.tv, ↓reduceIte, Nat.reduceEqDiff, reduceCtorEq, Nat.reduceLeDiff, Nat.reducePow, Int.reducePow, Int.reduceToNat, Nat.reduceAdd, c0, c1, vf, cc23, cc8, cc52, cc11, Int.reduceSub, Int.reduceAdd, Int.reduceMul, a1', a2', w1, w2]
      refine h7.st22 (j := 3) (n' := ⟨false, false, neg, w, lp⟩) (by rfl) (by rfl) (by decide) (by rfl) fun ha fa na => ?_
      have Ha := H.fr fa d1
      have la := Ha.ld
      simp (disch := first | omega | assumption) only [C.k_open_gos, T.tv, ↓reduceIte, Nat.reduceEqDiff, reduceCtorEq, Nat.reduceLeDiff, Nat.reducePow, Int.reducePow, Int.reduceToNat, Nat.reduceAdd, la]
      refine eff_callF rfl ((least_any (h := ha) (m := 23) (e := 8) (.inl ⟨rfl, rfl⟩)).mono ?_)
      rintro v1 h1 ⟨hx1, rfl⟩
      have nb := na.ext hx1
      have w3 : IntKind.i64.wrap ((ex : Int) - 1) = (ex : Int) - 1 := wrap_i64 (by omega) (by omega)
      rw [hlp]
      have hlv : lp = -149 := by rw [← hlp]; exact lp23
      have w4 : IntKind.i64.wrap ((ex : Int) - 1 + lp) = (ex : Int) - 1 + lp := wrap_i64 (by omega) (by omega)
      clear hlv
      simp (disch := first | omega | assumption) only [C.k_open_gos, T.tv, ↓reduceIte, Nat.reduceEqDiff, reduceCtorEq, Nat.reduceLeDiff, Nat.reducePow, Int.reducePow, Int.reduceToNat, Nat.reduceAdd, w3, w4]
      refine nb.st3 (j := 4) (n' := ⟨false, false, neg, w, (ex : Int) - 1 + lp⟩) (by rfl) (by rfl) (by decide) (by rfl) fun hb fb nb => ?_
      have l7' := nb.ld
      simp (disch := first | omega | assumption) only [C.k_open_gos, T.tv, ↓reduceIte, Nat.reduceEqDiff, reduceCtorEq, Nat.reduceLeDiff, Nat.reducePow, Int.reducePow, Int.reduceToNat, Nat.reduceAdd, l7']
      refine NB.st52 (((h4.fr fa d2).ext hx1).fr fb d2) rfl rfl fun hz fz nz => ?_
      have l4' := nz.ld
      simp (disch := first | omega | assumption) only [C.k_open_gos, T.tv, ↓reduceIte, Nat.reduceEqDiff, reduceCtorEq, Nat.reduceLeDiff, Nat.reducePow, Int.reducePow, Int.reduceToNat, Nat.reduceAdd, l4']
      first | exact ext_fr (ext_fr ((ext_fr E fa l7).trans hx1) fb l7) fz l4 | exact ⟨ext_fr (ext_fr ((ext_fr E fa l7).trans hx1) fb l7) fz l4, rfl⟩
    · rw [if_neg a2]
      have a2' : ¬ (0 : Int) < (ex : Int) := by omega
      simp (disch := first | omega | assumption) only [C.k_open_gos, T.tv, ↓reduceIte, Nat.reduceEqDiff, reduceCtorEq, Nat.reduceLeDiff, Nat.reducePow, Int.reducePow, Int.reduceToNat, Nat.reduceAdd, c0, c1, vf, cc23, cc8, cc52, cc11, Int.reduceSub, Int.reduceAdd, Int.reduceMul, a1', a2']
      have l7' := h7.ld
      simp (disch := first | omega | assumption) only [C.k_open_gos, T.tv, ↓reduceIte, Nat.reduceEqDiff, reduceCtorEq, Nat.reduceLeDiff, Nat.reducePow, Int.reducePow, Int.reduceToNat, Nat.reduceAdd, l7']
      refine NB.st52 h4 rfl rfl fun hz fz nz => ?_
      have l4' := nz.ld
      simp (disch := first | omega | assumption) only [C.k_open_gos, T.tv, ↓reduceIte, Nat.reduceEqDiff, reduceCtorEq, Nat.reduceLeDiff, Nat.reducePow, Int.reducePow, Int.reduceToNat, Nat.reduceAdd, l4']
      first | exact ext_fr E fz l4 | exact ⟨ext_fr E fz l4, rfl⟩
  · have hlt' : fr < 4503599627370496 := hlt
    have hexl' : ex < 2048 := hexl
    clear hlt hexl
    have c0 := H.c0
    have c1 := H.c1
    by_cases a1 : ex = 2047
    · rw [if_pos (show ex = 2 ^ 11 - 1 by omega)]
      have a1' : (ex : Int) = 2047 := by omega
      by_cases z0 : fr = 0
      · have z0' : (fr : Int) = 0 := by omega
        rw [decide_eq_false (show ¬ fr ≠ 0 by omega), decide_eq_true (show fr = 0 by omega)]
        simp (disch := first | omega | assumption) only [C.k_open_gos, T.tv, ↓reduceIte, Nat.reduceEqDiff, reduceCtorEq, Nat.reduceLeDiff, Nat.reducePow, Int.reducePow, Int.reduceToNat, Nat.reduceAdd, c0, c1, vf, cc23, cc8, cc52, cc11, Int.reduceSub, Int.reduceAdd, Int.reduceMul, a1', z0']
        refine h7.st4 (j := 0) (n' := ⟨false, false, neg, fr, _⟩) (by rfl) (by rfl) (by decide) (by rfl) fun ha fa na => ?_
        simp (disch := first | omega | assumption) only [C.k_open_gos, T.tv, ↓reduceIte, Nat.reduceEqDiff, reduceCtorEq, Nat.reduceLeDiff, Nat.reducePow, Int.reducePow, Int.reduceToNat, Nat.reduceAdd, z0']
        refine na.st4 (j := 1) (n' := ⟨false, true, neg, fr, _⟩) (by rfl) (by rfl) (by decide) (by rfl) fun hb fb nb => ?_
        have l7' := nb.ld
        simp (disch := first | omega | assumption) only [C.k_open_gos, T.tv, ↓reduceIte, Nat.reduceEqDiff, reduceCtorEq, Nat.reduceLeDiff, Nat.reducePow, Int.reducePow, Int.reduceToNat, Nat.reduceAdd, l7']
        refine NB.st52 ((h4.fr fa d2).fr fb d2) rfl rfl fun hz fz nz => ?_
        have l4' := nz.ld
        simp (disch := first | omega | assumption) only [C.k_open_gos, T.tv, ↓reduceIte, Nat.reduceEqDiff, reduceCtorEq, Nat.reduceLeDiff, Nat.reducePow, Int.reducePow, Int.reduceToNat, Nat.reduceAdd, l4']
        first | exact ext_fr (ext_fr (ext_fr E fa l7) fb l7) fz l4 | exact ⟨ext_fr (ext_fr (ext_fr E fa l7) fb l7) fz l4, rfl⟩
      · have z0' : ¬ (fr : Int) = 0 := by omega
        rw [decide_eq_true (show fr ≠ 0 by omega), decide_eq_false (show ¬ fr = 0 by omega)]
        simp (disch := first | omega | assumption) only [C.k_open_gos, T.tv, ↓reduceIte, Nat.reduceEqDiff, reduceCtorEq, Nat.reduceLeDiff, Nat.reducePow, Int.reducePow, Int.reduceToNat, Nat.reduceAdd, c0, c1, vf, cc23, cc8, cc52, cc11, Int.reduceSub, Int.reduceAdd, Int.reduceMul, a1', z0']
        refine h7.st4 (j := 0) (n' := ⟨true, false, neg, fr, _⟩) (by rfl) (by rfl) (by decide) (by rfl) fun ha fa na => ?_
        simp (disch := first | omega | assumption) only [C.k_open_gos, T.tv, ↓reduceIte, Nat.reduceEqDiff, reduceCtorEq, Nat.reduceLeDiff, Nat.reducePow, Int.reducePow, Int.reduceToNat, Nat.reduceAdd, z0']
        refine na.st4 (j := 1) (n' := ⟨true, false, neg, fr, _⟩) (by rfl) (by rfl) (by decide) (by rfl) fun hb fb nb => ?_
        have l7' := nb.ld
        simp (disch := first | omega | assumption) only [C.k_open_gos, T.tv, ↓reduceIte, Nat.reduceEqDiff, reduceCtorEq, Nat.reduceLeDiff, Nat.reducePow, Int.reducePow, Int.reduceToNat, Nat.reduceAdd, l7']
        refine NB.st52 ((h4.fr fa d2).fr fb d2) rfl rfl fun hz fz nz => ?_
        have l4' := nz.ld
        simp (disch := first | omega | assumption) only [C.k_open_gos, T.tv, ↓reduceIte, Nat.reduceEqDiff, reduceCtorEq, Nat.reduceLeDiff, Nat.reducePow, Int.reducePow, Int.reduceToNat, Nat.reduceAdd, l4']
        first | exact ext_fr (ext_fr (ext_fr E fa l7) fb l7) fz l4 | exact ⟨ext_fr (ext_fr (ext_fr E fa l7) fb l7) fz l4, rfl⟩
    rw [if_neg (show ¬ ex = 2 ^ 11 - 1 by omega)]
    have a1' : ¬ (ex : Int) = 2047 := by omega
    by_cases a2 : 0 < ex
    · rw [if_pos a2]
      have a2' : (0 : Int) < (ex : Int) := by omega
      obtain ⟨w, hw⟩ : ∃ w, w = fr + 2 ^ 52 := ⟨_, rfl⟩
      rw [← hw]
      have w1 : (fr : Int) + 4503599627370496 = ((w : Nat) : Int) := by omega
      have w2 : IntKind.u64.wrap ((w : Nat) : Int) = ((w : Nat) : Int) := wrap_u64 (by omega) (by omega)
      clear hw
      simp (disch := first | omega | assumption) only [C.k_open_gos, T.tv, ↓reduceIte, Nat.reduceEqDiff, reduceCtorEq, Nat.reduceLeDiff, Nat.reducePow, Int.reducePow, Int.reduceToNat, Nat.reduceAdd, c0, c1, vf, cc23, cc8, cc52, cc11, Int.reduceSub, Int.reduceAdd, Int.reduceMul, a1', a2', w1, w2]
      refine h7.st22 (j := 3) (n' := ⟨false, false, neg, w, lp⟩) (by rfl) (by rfl) (by decide) (by rfl) fun ha fa na => ?_
      have Ha := H.fr fa d1
      have la := Ha.ld
      simp (disch := first | omega | assumption) only [C.k_open_gos, T.tv, ↓reduceIte, Nat.reduceEqDiff, reduceCtorEq, Nat.reduceLeDiff, Nat.reducePow, Int.reducePow, Int.reduceToNat, Nat.reduceAdd, la]
      refine eff_callF rfl ((least_any (h := ha) (m := 52) (e := 11) (.inr ⟨rfl, rfl⟩)).mono ?_)
      rintro v1 h1 ⟨hx1, rfl⟩
      have nb := na.ext hx1
      have w3 : IntKind.i64.wrap ((ex : Int) - 1) = (ex : Int) - 1 := wrap_i64 (by omega) (by omega)
      rw [hlp]
      have hlv : lp = -1074 := by rw [← hlp]; exact lp52
      have w4 : IntKind.i64.wrap ((ex : Int) - 1 + lp) = (ex : Int) - 1 + lp := wrap_i64 (by omega) (by omega)
      clear hlv
      simp (disch := first | omega | assumption) only [C.k_open_gos, T.tv, ↓reduceIte, Nat.reduceEqDiff, reduceCtorEq, Nat.reduceLeDiff, Nat.reducePow, Int.reducePow, Int.reduceToNat, Nat.reduceAdd, w3, w4]
      refine nb.st3 (j := 4) (n' := ⟨false, false, neg, w, (ex : Int) - 1 + lp⟩) (by rfl) (by rfl) (by decide) (by rfl) fun hb fb nb => ?_
      have l7' := nb.ld
      simp (disch := first | omega | assumption) only [C.k_open_gos, T.tv, ↓reduceIte, Nat.reduceEqDiff, reduceCtorEq, Nat.reduceLeDiff, Nat.reducePow, Int.reducePow, Int.reduceToNat, Nat.reduceAdd, l7']
      refine NB.st52 (((h4.fr fa d2).ext hx1).fr fb d2) rfl rfl fun hz fz nz => ?_
      have l4' := nz.ld
      simp (disch := first | omega | assumption) only [C.k_open_gos, T.tv, ↓reduceIte, Nat.reduceEqDiff, reduceCtorEq, Nat.reduceLeDiff, Nat.reducePow, Int.reducePow, Int.reduceToNat, Nat.reduceAdd, l4']
      first | exact ext_fr (ext_fr ((ext_fr E fa l7).trans hx1) fb l7) fz l4 | exact ⟨ext_fr (ext_fr ((ext_fr E fa l7).trans hx1) fb l7) fz l4, rfl⟩
    · rw [if_neg a2]
      have a2' : ¬ (0 : Int) < (ex : Int) := by omega
      simp (disch := first | omega | assumption) only [C.k_open_gos, T.tv, ↓reduceIte, Nat.reduceEqDiff, reduceCtorEq, Nat.reduceLeDiff, Nat.reducePow, Int.reducePow, Int.reduceToNat, Nat.reduceAdd, c0, c1, vf, cc23, cc8, cc52, cc11, Int.reduceSub, Int.reduceAdd, Int.reduceMul, a1', a2']
      have l7' := h7.ld
      simp (disch := first | omega | assumption) only [C.k_open_gos, T.tv, ↓reduceIte, Nat.reduceEqDiff, reduceCtorEq, Nat.reduceLeDiff, Nat.reducePow, Int.reducePow, Int.reduceToNat, Nat.reduceAdd, l7']
      refine NB.st52 h4 rfl rfl fun hz fz nz => ?_
      have l4' := nz.ld
      simp (disch := first | omega | assumption) only [C.k_open_gos, T.tv, ↓reduceIte, Nat.reduceEqDiff, reduceCtorEq, Nat.reduceLeDiff, Nat.reducePow, Int.reducePow, Int.reduceToNat, Nat.reduceAdd, l4']
      first | exact ext_fr E fz l4 | exact ⟨ext_fr E fz l4, rfl⟩
end Go.Proofs.Ytedleaeohbjfnaa

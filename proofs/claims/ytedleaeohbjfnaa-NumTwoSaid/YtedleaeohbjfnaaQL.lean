/- The reference's open, whole. No condition. -/
import Derived.Test.YtedleaeohbjfnaaQK
namespace Go.Proofs.Ytedleaeohbjfnaa
open Go.Vc Go.Num
set_option maxRecDepth 100000
set_option linter.unusedSimpArgs false
set_option linter.unusedVariables false

theorem bv_i64 {a b : Nat} (ha : a < 9223372036854775808) (hb : b < 9223372036854775808) : bitsV .and .i64 (a : Int) (b : Int) = ((a &&& b : Nat) : Int) := by
  have h1 : ∀ n : Nat, n < 9223372036854775808 → (BitVec.ofInt 64 (n : Int)).toNat = n := fun n hn => by
    rw [BitVec.toNat_ofInt]
    have : ((n : Int) % ((2 ^ 64 : Nat) : Int)) = n := Int.emod_eq_of_lt (by omega) (by omega)
    rw [this]; rfl
  show IntKind.i64.wrap (((BitVec.ofInt 64 (a : Int)) &&& (BitVec.ofInt 64 (b : Int))).toNat : Int) = _
  rw [BitVec.toNat_and, h1 a ha, h1 b hb]
  have := @Nat.and_le_left a b
  exact wrap_i64 (by omega) (by omega)
theorem and_mask {a n : Nat} (ha : a < 18446744073709551616) (hn : 2 ^ n - 1 < 18446744073709551616) : bitsV .and .u64 (a : Int) ((2 ^ n - 1 : Nat) : Int) = ((a % 2 ^ n : Nat) : Int) := by
  rw [(bv_nat (op := .and) ha hn).1, and_pow]
theorem and_mask_i {a n : Nat} (ha : a < 9223372036854775808) (hn : 2 ^ n - 1 < 9223372036854775808) : bitsV .and .i64 (a : Int) ((2 ^ n - 1 : Nat) : Int) = ((a % 2 ^ n : Nat) : Int) := by
  rw [bv_i64 ha hn, and_pow]
theorem KB.lt {h : Heap} {g m e : Nat} (H : KB h g m e) : g < h.size := by
  have := H.b; rw [Array.getElem?_eq_some_iff] at this; exact this.1
theorem NB.lt {h : Heap} {g : Nat} {n : Nm} (H : NB h g n) : g < h.size := by
  have := H.b; rw [Array.getElem?_eq_some_iff] at this; exact this.1
set_option maxHeartbeats 1000000 in
theorem open_any {h : Heap} {m e x : Nat} (hk : Kd m e) (hx : x < 18446744073709551616) :
    HCalls Try.prog 27 #[kV m e, .int .u64 (x : Int)] h fun v h' => Ext h h' ∧ v = nV (openN (fmt m e) x) := by
  refine C.k_open_calls (args := [kV m e, .int .u64 (x : Int)]) rfl ?_
  simp (disch := first | omega | assumption) only [C.k_open_gos, T.tv, ↓reduceIte, Nat.reduceEqDiff, reduceCtorEq, Nat.reduceLeDiff, Nat.reducePow, Int.reducePow, Int.reduceToNat, Nat.reduceAdd]
  refine eff_box ?_
  have H := KB.push h m e
  have E := Ext.push h (.cells #[.int .i64 (m : Int), .int .i64 (e : Int)] 35)
  simp (disch := first | omega | assumption) only [C.k_open_gos, T.tv, ↓reduceIte, Nat.reduceEqDiff, reduceCtorEq, Nat.reduceLeDiff, Nat.reducePow, Int.reducePow, Int.reduceToNat, Nat.reduceAdd, Nat.zero_add]
  generalize h.push (.cells #[.int .i64 (m : Int), .int .i64 (e : Int)] 35) = h1 at *
  obtain ⟨g2, hg2⟩ : ∃ g, g = h.size := ⟨_, rfl⟩
  rw [← hg2] at H ⊢
  refine eff_alloc_z T.zr_52 ?_
  have h4 := NB.push h1 zeroN
  have E2 := Ext.push h1 (.cells (nC zeroN) 52)
  have hb1 : g2 < h1.size := by have := H.b; rw [Array.getElem?_eq_some_iff] at this; exact this.1
  have l4 : h.size ≤ h1.size := E.size
  rw [show (.cells #[.bool false, .bool false, .bool false, .int .u64 0, .int .i64 0] 52 : Obj) = .cells (nC zeroN) 52 from rfl]
  obtain ⟨g4, hg4⟩ : ∃ g, g = h1.size := ⟨_, rfl⟩
  rw [← hg4] at h4 hb1 l4 ⊢
  replace H := H.ext E2
  replace E := E.trans E2
  clear E2
  generalize h1.push (.cells (nC zeroN) 52) = h2 at *
  clear hg4 h1
  have c0 := H.c0
  have c1 := H.c1
  have lk := H.ld
  --CASES
  obtain ⟨ex, hex⟩ : ∃ ex, ex = x / 2 ^ m % 2 ^ e := ⟨_, rfl⟩
  obtain ⟨fr, hfr⟩ : ∃ fr, fr = x % 2 ^ m := ⟨_, rfl⟩
  obtain ⟨bt, hbt⟩ : ∃ bt, bt = x / 2 ^ (m + e) % 2 := ⟨_, rfl⟩
  have tail := fun (h' : Heap) (g7 : Nat) (u37 u50 : Value) (E' : Ext h h') (H' : KB h' g2 m e) (h4' : NB h' g4 zeroN) (h7 : NB h' g7 ⟨false, false, bt == 1, fr, (fmt m e).leastPlace⟩) (l7 : h.size ≤ g7) (d1 : g2 ≠ g7) (d2 : g4 ≠ g7) => open_tail (u37 := u37) (u50 := u50) hk hx E' H' h4' (by rw [hbt, hfr] at h7; exact h7) l4 l7 d1 d2 (by omega) hex
  rw [← hfr] at tail
  have least := fun (h' : Heap) => least_any (h := h') hk
  generalize hlp : (fmt m e).leastPlace = lp at tail least
  generalize hpost : (fun (v : Value) h' => Ext h h' ∧ v = nV (openN (fmt m e) x)) = post at tail ⊢
  clear hpost hlp
  rcases hk with ⟨rfl, rfl⟩ | ⟨rfl, rfl⟩
  · have e1 : bitsV .and .u64 (x : Int) 8388607 = (fr : Int) := by rw [hfr]; exact and_mask (n := 23) hx (by decide)
    have e2 : (x : Int) / 8388608 = ((x / 8388608 : Nat) : Int) := by omega
    have e3 : IntKind.i64.wrap ((x / 8388608 : Nat) : Int) = ((x / 8388608 : Nat) : Int) := wrap_i64 (by omega) (by omega)
    have e4 : bitsV .and .i64 ((x / 8388608 : Nat) : Int) 255 = (ex : Int) := by rw [hex]; exact and_mask_i (n := 8) (by omega) (by decide)
    have e5 : (x : Int) / 2147483648 = ((x / 2147483648 : Nat) : Int) := by omega
    have e6 : bitsV .and .u64 ((x / 2147483648 : Nat) : Int) 1 = (bt : Int) := by rw [hbt]; exact and_mask (n := 1) (by omega) (by decide)
    have e7 : decide ((bt : Int) = 1) = (bt == 1) := by rw [show (bt == 1) = decide (bt = 1) from rfl]; exact decide_eq_decide.2 (by omega)
    have e8 : (23 : Int) + 8 = 31 := rfl
    clear hex hfr hbt
    simp (disch := first | omega | assumption) only [C.k_open_gos, T.tv, ↓reduceIte, Nat.reduceEqDiff, reduceCtorEq, Nat.reduceLeDiff, Nat.reducePow, Int.reducePow, Int.reduceToNat, Nat.reduceAdd, c0, c1, lk, vf, cc23, cc8, cc52, cc11, Int.reduceSub, Int.reduceAdd, Int.reduceMul, e1, e2, e3, e4, e5, e6, e7]
    refine ⟨?_, ?_⟩
    · refine eff_callF rfl ((least _).mono ?_)
      rintro v1 h3 ⟨hx3, rfl⟩
      have c0' := (H.ext hx3).c0
      have c1' := (H.ext hx3).c1
      have lk' := (H.ext hx3).ld
      simp (disch := first | omega | assumption) only [C.k_open_gos, T.tv, ↓reduceIte, Nat.reduceEqDiff, reduceCtorEq, Nat.reduceLeDiff, Nat.reducePow, Int.reducePow, Int.reduceToNat, Nat.reduceAdd, c0', c1', lk', vf, cc23, cc8, cc52, cc11, Int.reduceSub, Int.reduceAdd, Int.reduceMul, e1, e2, e3, e4, e5, e6, e7]
      have g2l := KB.lt (H.ext hx3)
      have g4l := NB.lt (h4.ext hx3)
      refine eff_alloc_z T.zr_52 ?_
      rw [show (.cells #[.bool false, .bool false, .bool false, .int .u64 0, .int .i64 0] 52 : Obj) = .cells (nC zeroN) 52 from rfl]
      have E5 := hx3.trans (Ext.push h3 (.cells (nC zeroN) 52))
      have h7 := NB.push h3 zeroN
      have c0'' := (H.ext E5).c0
      have c1'' := (H.ext E5).c1
      have lk'' := (H.ext E5).ld
      generalize h3.push (.cells (nC zeroN) 52) = h5 at *
      have l7 : h.size ≤ h3.size := Nat.le_trans E.size hx3.size
      generalize h3.size = g7 at *
      simp (disch := first | omega | assumption) only [C.k_open_gos, T.tv, ↓reduceIte, Nat.reduceEqDiff, reduceCtorEq, Nat.reduceLeDiff, Nat.reducePow, Int.reducePow, Int.reduceToNat, Nat.reduceAdd, c0'', c1'', lk'', vf, cc23, cc8, cc52, cc11, Int.reduceSub, Int.reduceAdd, Int.reduceMul, e1, e2, e3, e4, e5, e6, e7]
      refine NB.st52 (n' := ⟨false, false, bt == 1, fr, lp⟩) h7 (by rfl) (by rfl) fun hz fz nz => ?_
      simp (disch := first | omega | assumption) only [C.k_open_gos, T.tv, ↓reduceIte, Nat.reduceEqDiff, reduceCtorEq, Nat.reduceLeDiff, Nat.reducePow, Int.reducePow, Int.reduceToNat, Nat.reduceAdd]
      exact tail hz g7 _ _ (ext_fr (E.trans E5) fz l7) ((H.ext E5).fr fz (by omega)) ((h4.ext E5).fr fz (by omega)) nz l7 (by omega) (by omega)
    · have g2l := KB.lt H
      have g4l := NB.lt h4
      refine eff_alloc_z T.zr_52 ?_
      rw [show (.cells #[.bool false, .bool false, .bool false, .int .u64 0, .int .i64 0] 52 : Obj) = .cells (nC zeroN) 52 from rfl]
      have E5 := Ext.push h2 (.cells (nC zeroN) 52)
      have h7 := NB.push h2 zeroN
      have c0' := (H.ext E5).c0
      have c1' := (H.ext E5).c1
      have lk' := (H.ext E5).ld
      generalize h2.push (.cells (nC zeroN) 52) = h5 at *
      have l7 : h.size ≤ h2.size := E.size
      generalize h2.size = g7 at *
      simp (disch := first | omega | assumption) only [C.k_open_gos, T.tv, ↓reduceIte, Nat.reduceEqDiff, reduceCtorEq, Nat.reduceLeDiff, Nat.reducePow, Int.reducePow, Int.reduceToNat, Nat.reduceAdd, c0', c1', lk', vf, cc23, cc8, cc52, cc11, Int.reduceSub, Int.reduceAdd, Int.reduceMul, e1, e2, e3, e4, e5, e6, e7]
      refine eff_callF rfl ((least _).mono ?_)
      rintro v1 h3 ⟨hx3, rfl⟩
      have E6 := E5.trans hx3
      have c0'' := (H.ext E6).c0
      have c1'' := (H.ext E6).c1
      have lk'' := (H.ext E6).ld
      simp (disch := first | omega | assumption) only [C.k_open_gos, T.tv, ↓reduceIte, Nat.reduceEqDiff, reduceCtorEq, Nat.reduceLeDiff, Nat.reducePow, Int.reducePow, Int.reduceToNat, Nat.reduceAdd, c0'', c1'', lk'', vf, cc23, cc8, cc52, cc11, Int.reduceSub, Int.reduceAdd, Int.reduceMul, e1, e2, e3, e4, e5, e6, e7]
      refine NB.st52 (n' := ⟨false, false, bt == 1, fr, lp⟩) (h7.ext hx3) (by rfl) (by rfl) fun hz fz nz => ?_
      simp (disch := first | omega | assumption) only [C.k_open_gos, T.tv, ↓reduceIte, Nat.reduceEqDiff, reduceCtorEq, Nat.reduceLeDiff, Nat.reducePow, Int.reducePow, Int.reduceToNat, Nat.reduceAdd]
      exact tail hz g7 _ _ (ext_fr (E.trans E6) fz l7) ((H.ext E6).fr fz (by omega)) ((h4.ext E6).fr fz (by omega)) nz l7 (by omega) (by omega)
  · have e1 : bitsV .and .u64 (x : Int) 4503599627370495 = (fr : Int) := by rw [hfr]; exact and_mask (n := 52) hx (by decide)
    have e2 : (x : Int) / 4503599627370496 = ((x / 4503599627370496 : Nat) : Int) := by omega
    have e3 : IntKind.i64.wrap ((x / 4503599627370496 : Nat) : Int) = ((x / 4503599627370496 : Nat) : Int) := wrap_i64 (by omega) (by omega)
    have e4 : bitsV .and .i64 ((x / 4503599627370496 : Nat) : Int) 2047 = (ex : Int) := by rw [hex]; exact and_mask_i (n := 11) (by omega) (by decide)
    have e5 : (x : Int) / 9223372036854775808 = ((x / 9223372036854775808 : Nat) : Int) := by omega
    have e6 : bitsV .and .u64 ((x / 9223372036854775808 : Nat) : Int) 1 = (bt : Int) := by rw [hbt]; exact and_mask (n := 1) (by omega) (by decide)
    have e7 : decide ((bt : Int) = 1) = (bt == 1) := by rw [show (bt == 1) = decide (bt = 1) from rfl]; exact decide_eq_decide.2 (by omega)
    have e8 : (52 : Int) + 11 = 63 := rfl
    clear hex hfr hbt
    simp (disch := first | omega | assumption) only [C.k_open_gos, T.tv, ↓reduceIte, Nat.reduceEqDiff, reduceCtorEq, Nat.reduceLeDiff, Nat.reducePow, Int.reducePow, Int.reduceToNat, Nat.reduceAdd, c0, c1, lk, vf, cc23, cc8, cc52, cc11, Int.reduceSub, Int.reduceAdd, Int.reduceMul, e1, e2, e3, e4, e5, e6, e7]
    refine ⟨?_, ?_⟩
    · refine eff_callF rfl ((least _).mono ?_)
      rintro v1 h3 ⟨hx3, rfl⟩
      have c0' := (H.ext hx3).c0
      have c1' := (H.ext hx3).c1
      have lk' := (H.ext hx3).ld
      simp (disch := first | omega | assumption) only [C.k_open_gos, T.tv, ↓reduceIte, Nat.reduceEqDiff, reduceCtorEq, Nat.reduceLeDiff, Nat.reducePow, Int.reducePow, Int.reduceToNat, Nat.reduceAdd, c0', c1', lk', vf, cc23, cc8, cc52, cc11, Int.reduceSub, Int.reduceAdd, Int.reduceMul, e1, e2, e3, e4, e5, e6, e7]
      have g2l := KB.lt (H.ext hx3)
      have g4l := NB.lt (h4.ext hx3)
      refine eff_alloc_z T.zr_52 ?_
      rw [show (.cells #[.bool false, .bool false, .bool false, .int .u64 0, .int .i64 0] 52 : Obj) = .cells (nC zeroN) 52 from rfl]
      have E5 := hx3.trans (Ext.push h3 (.cells (nC zeroN) 52))
      have h7 := NB.push h3 zeroN
      have c0'' := (H.ext E5).c0
      have c1'' := (H.ext E5).c1
      have lk'' := (H.ext E5).ld
      generalize h3.push (.cells (nC zeroN) 52) = h5 at *
      have l7 : h.size ≤ h3.size := Nat.le_trans E.size hx3.size
      generalize h3.size = g7 at *
      simp (disch := first | omega | assumption) only [C.k_open_gos, T.tv, ↓reduceIte, Nat.reduceEqDiff, reduceCtorEq, Nat.reduceLeDiff, Nat.reducePow, Int.reducePow, Int.reduceToNat, Nat.reduceAdd, c0'', c1'', lk'', vf, cc23, cc8, cc52, cc11, Int.reduceSub, Int.reduceAdd, Int.reduceMul, e1, e2, e3, e4, e5, e6, e7]
      refine NB.st52 (n' := ⟨false, false, bt == 1, fr, lp⟩) h7 (by rfl) (by rfl) fun hz fz nz => ?_
      simp (disch := first | omega | assumption) only [C.k_open_gos, T.tv, ↓reduceIte, Nat.reduceEqDiff, reduceCtorEq, Nat.reduceLeDiff, Nat.reducePow, Int.reducePow, Int.reduceToNat, Nat.reduceAdd]
      exact tail hz g7 _ _ (ext_fr (E.trans E5) fz l7) ((H.ext E5).fr fz (by omega)) ((h4.ext E5).fr fz (by omega)) nz l7 (by omega) (by omega)
    · have g2l := KB.lt H
      have g4l := NB.lt h4
      refine eff_alloc_z T.zr_52 ?_
      rw [show (.cells #[.bool false, .bool false, .bool false, .int .u64 0, .int .i64 0] 52 : Obj) = .cells (nC zeroN) 52 from rfl]
      have E5 := Ext.push h2 (.cells (nC zeroN) 52)
      have h7 := NB.push h2 zeroN
      have c0' := (H.ext E5).c0
      have c1' := (H.ext E5).c1
      have lk' := (H.ext E5).ld
      generalize h2.push (.cells (nC zeroN) 52) = h5 at *
      have l7 : h.size ≤ h2.size := E.size
      generalize h2.size = g7 at *
      simp (disch := first | omega | assumption) only [C.k_open_gos, T.tv, ↓reduceIte, Nat.reduceEqDiff, reduceCtorEq, Nat.reduceLeDiff, Nat.reducePow, Int.reducePow, Int.reduceToNat, Nat.reduceAdd, c0', c1', lk', vf, cc23, cc8, cc52, cc11, Int.reduceSub, Int.reduceAdd, Int.reduceMul, e1, e2, e3, e4, e5, e6, e7]
      refine eff_callF rfl ((least _).mono ?_)
      rintro v1 h3 ⟨hx3, rfl⟩
      have E6 := E5.trans hx3
      have c0'' := (H.ext E6).c0
      have c1'' := (H.ext E6).c1
      have lk'' := (H.ext E6).ld
      simp (disch := first | omega | assumption) only [C.k_open_gos, T.tv, ↓reduceIte, Nat.reduceEqDiff, reduceCtorEq, Nat.reduceLeDiff, Nat.reducePow, Int.reducePow, Int.reduceToNat, Nat.reduceAdd, c0'', c1'', lk'', vf, cc23, cc8, cc52, cc11, Int.reduceSub, Int.reduceAdd, Int.reduceMul, e1, e2, e3, e4, e5, e6, e7]
      refine NB.st52 (n' := ⟨false, false, bt == 1, fr, lp⟩) (h7.ext hx3) (by rfl) (by rfl) fun hz fz nz => ?_
      simp (disch := first | omega | assumption) only [C.k_open_gos, T.tv, ↓reduceIte, Nat.reduceEqDiff, reduceCtorEq, Nat.reduceLeDiff, Nat.reducePow, Int.reducePow, Int.reduceToNat, Nat.reduceAdd]
      exact tail hz g7 _ _ (ext_fr (E.trans E6) fz l7) ((H.ext E6).fr fz (by omega)) ((h4.ext E6).fr fz (by omega)) nz l7 (by omega) (by omega)
end Go.Proofs.Ytedleaeohbjfnaa

/- The reference's reader of bytes (cut of jvmcoreref3). -/
import Derived.Test.YtohkbpnblkkdgaaMP
import Derived.Test.YtohkbpnblkkdgaaB0
import Derived.Test.YtohkbpnblkkdgaaCh
namespace Go.Proofs.Ytohkbpnblkkdgaa
open Go.Vc
set_option maxRecDepth 100000
set_option linter.unusedSimpArgs false
set_option linter.unusedVariables false

set_option maxHeartbeats 1000000 in
theorem rnum_any (bs : List UInt8) (h : Heap) (hb : bs.length ≤ 8) : HCalls Try.prog 67 #[str bs] h fun v h' => h' = h ∧ v = .int .u64 (numB bs) := by
  refine C.ref1_Num_calls (args := [str bs]) rfl ?_
  simp (disch := first | omega | assumption) only [C.ref1_Num_gos, vs, Go.Vc.vk, T.ts, ↓reduceIte, Nat.reduceEqDiff, reduceCtorEq, Nat.reduceLeDiff, Nat.reducePow, Int.reducePow, Int.reduceToNat, Nat.reduceAdd]
  refine loop_intro [0, 3, 4] (fun m ρ hc => ∃ i : Nat, m = bs.length - i ∧ i ≤ bs.length ∧ ρ = [(0, str bs), (3, .int .u64 (numB (bs.take i))), (4, .int .i64 i)] ∧ hc = h) ?_ ?_
  · simp (disch := first | omega | assumption) only [C.ref1_Num_gos, vs, Go.Vc.vk, T.ts, ↓reduceIte, Nat.reduceEqDiff, reduceCtorEq, Nat.reduceLeDiff, Nat.reducePow, Int.reducePow, Int.reduceToNat, Nat.reduceAdd]
    exact ⟨_, 0, rfl, Nat.zero_le _, by simp [numB]⟩
  · rintro m ρ hc ⟨i, rfl, hi, rfl, rfl⟩
    rcases Nat.lt_or_ge i bs.length with hlt | hge
    · have hlt' : (i : Int) < bs.length := by omega
      have hx := numB_lt (bs.take i)
      have hp : 256 ^ (bs.take i).length ≤ 256 ^ 7 := Nat.pow_le_pow_right (by decide) (by simp; omega)
      have hx2 : numB (bs.take i) < 72057594037927936 := by
        have : (256 : Nat) ^ 7 = 72057594037927936 := by decide
        omega
      have hb8 := UInt8.toNat_lt (bs.getD i 0)
      simp only [Nat.reducePow] at hb8
      have hw1 : IntKind.u64.wrap ((numB (bs.take i) : Int) * 256) = (numB (bs.take i) : Int) * 256 := wrap_u64 (by omega) (by omega)
      have hw2 : IntKind.u64.wrap ((bs.getD i 0).toNat : Int) = ((bs.getD i 0).toNat : Int) := wrap_u64 (by omega) (by omega)
      have hw3 : IntKind.u64.wrap ((numB (bs.take i) : Int) * 256 + ((bs.getD i 0).toNat : Int)) = ((numB (bs.take i) * 256 + (bs.getD i 0).toNat : Nat) : Int) := by rw [wrap_u64 (by omega) (by omega)]; omega
      have hst : numB (bs.take (i + 1)) = numB (bs.take i) * 256 + (bs.getD i 0).toNat := by
        rw [List.take_succ_eq_append_getElem hlt, numB_append]; simp [hlt]
      simp (disch := first | omega | assumption) only [C.ref1_Num_gos, vs, Go.Vc.vk, T.ts, ↓reduceIte, Nat.reduceEqDiff, reduceCtorEq, Nat.reduceLeDiff, Nat.reducePow, Int.reducePow, Int.reduceToNat, Nat.reduceAdd, hlt', hw1, hw2, hw3]
      exact ⟨bs.length - (i + 1), by omega, i + 1, rfl, by omega, by rw [hst]; rfl⟩
    · have hlt' : ¬ (i : Int) < bs.length := by omega
      have hin : i = bs.length := by omega
      subst hin
      rw [List.take_length]
      simp (disch := first | omega | assumption) only [C.ref1_Num_gos, vs, Go.Vc.vk, T.ts, ↓reduceIte, Nat.reduceEqDiff, reduceCtorEq, Nat.reduceLeDiff, Nat.reducePow, Int.reducePow, Int.reduceToNat, Nat.reduceAdd, hlt']
def Cutr (h : Heap) (g : Nat) (l : List UInt8) (s : RS) : Prop :=
  h[g]? = some (.cells #[str l, .int .i64 s.p, .int .i64 s.e, .int .i64 s.es] 66 (0, 0)) ∧ s.p ≤ l.length
section
variable {h : Heap} {g : Nat} {l : List UInt8} {s : RS}
theorem Cutr.lt (H : Cutr h g l s) : g < h.size := (Array.getElem?_eq_some_iff.1 H.1).1
theorem Cutr.c0 (H : Cutr h g l s) : cellAt h ⟨g, 0, none⟩ = some (str l) := by rw [cellAt_of H.1]; rfl
theorem Cutr.c1 (H : Cutr h g l s) : cellAt h ⟨g, 1, none⟩ = some (.int .i64 (s.p : Int)) := by rw [cellAt_of H.1]; rfl
theorem Cutr.c2 (H : Cutr h g l s) : cellAt h ⟨g, 2, none⟩ = some (.int .i64 (s.e : Int)) := by rw [cellAt_of H.1]; rfl
theorem Cutr.c3 (H : Cutr h g l s) : cellAt h ⟨g, 3, none⟩ = some (.int .i64 (s.es : Int)) := by rw [cellAt_of H.1]; rfl
theorem Cutr.fr {S : Nat → Prop} {h' : Heap} (H : Cutr h g l s) (hf : Fr S h h') (hS : ¬ S g) : Cutr h' g l s := ⟨by rw [hf.same g H.lt hS, H.1], H.2⟩
theorem cfail_any (e q : Nat) (H : Cutr h g l s) : HCalls Try.prog 34 #[.pointer (some ⟨g, 0, none⟩), .int .i64 e, .int .i64 q] h fun v h' => Fr (fun k => k = g) h h' ∧ Cutr h' g l (failS e q s) := by
  refine C.cut_fail_calls (args := [.pointer (some ⟨g, 0, none⟩), .int .i64 e, .int .i64 q]) rfl ?_
  have c2 := H.c2
  by_cases he : s.e = 0
  · have he' : (s.e : Int) = 0 := by omega
    simp (disch := first | omega | assumption) only [C.cut_fail_gos, vs, Go.Vc.vk, T.ts, ↓reduceIte, Nat.reduceEqDiff, reduceCtorEq, Nat.reduceLeDiff, Nat.reducePow, Int.reducePow, Int.reduceToNat, Nat.reduceAdd, c2, eq_true he']
    refine eff_store1_z T.zr_27 rfl rfl rfl rfl rfl (u := .int .i64 s.e) c2 ?_ ?_
    · simp [frozenAt, H.1]
    have b1 := setAt_get (o := 2) H.1 (.int .i64 (e : Int))
    simp (disch := first | omega | assumption) only [C.cut_fail_gos, vs, Go.Vc.vk, T.ts, ↓reduceIte, Nat.reduceEqDiff, reduceCtorEq, Nat.reduceLeDiff, Nat.reducePow, Int.reducePow, Int.reduceToNat, Nat.reduceAdd]
    have hc : cellAt (setAt h ⟨g, 2, none⟩ (.int .i64 (e : Int))) ⟨g, 3, none⟩ = some (.int .i64 s.es) := by rw [cellAt_of b1]; rfl
    refine eff_store1_z T.zr_3 rfl rfl rfl rfl rfl (u := .int .i64 s.es) hc ?_ ?_
    · simp [frozenAt, b1]
    have b2 := setAt_get (o := 3) b1 (.int .i64 (q : Int))
    simp (disch := first | omega | assumption) only [C.cut_fail_gos, vs, Go.Vc.vk, T.ts, ↓reduceIte, Nat.reduceEqDiff, reduceCtorEq, Nat.reduceLeDiff, Nat.reducePow, Int.reducePow, Int.reduceToNat, Nat.reduceAdd]
    refine ⟨Fr.trans (Fr.set (S := fun k => k = g) _ _ _ fun _ => rfl) (Fr.set (S := fun k => k = g) _ _ _ fun _ => rfl) (fun _ _ h => h) (fun _ _ h => h), ?_⟩
    unfold failS
    rw [if_pos he]
    exact ⟨b2, H.2⟩
  · have he' : ¬ (s.e : Int) = 0 := by omega
    simp (disch := first | omega | assumption) only [C.cut_fail_gos, vs, Go.Vc.vk, T.ts, ↓reduceIte, Nat.reduceEqDiff, reduceCtorEq, Nat.reduceLeDiff, Nat.reducePow, Int.reducePow, Int.reduceToNat, Nat.reduceAdd, c2, eq_false he']
    unfold failS
    rw [if_neg he]
    exact ⟨Fr.refl _ _, H⟩
set_option maxHeartbeats 2000000 in
theorem ctake_any (n : Nat) (hl : l.length ≤ 1073741824) (hn : n ≤ 1099511627776) (H : Cutr h g l s) : HCalls Try.prog 58 #[.pointer (some ⟨g, 0, none⟩), .int .i64 n] h fun v h' => Fr (fun k => k = g) h h' ∧ Cutr h' g l (takeS l n s).2 ∧ v = str (takeS l n s).1 := by
  refine C.cut_take_calls (args := [.pointer (some ⟨g, 0, none⟩), .int .i64 n]) rfl ?_
  have c0 := H.c0
  have c1 := H.c1
  have c2 := H.c2
  have h2 := H.2
  have n0 : ¬ (n : Int) < 0 := by omega
  by_cases he : s.e = 0
  · have he' : (s.e : Int) = 0 := by omega
    by_cases hlt : l.length < s.p + n
    · have q : (l.length : Int) < (s.p : Int) + (n : Int) := by omega
      simp (disch := first | omega | assumption) only [C.cut_take_gos, vs, Go.Vc.vk, T.ts, ↓reduceIte, Nat.reduceEqDiff, reduceCtorEq, Nat.reduceLeDiff, Nat.reducePow, Int.reducePow, Int.reduceToNat, Nat.reduceAdd, c0, c1, c2, n0, eq_true he', q]
      refine eff_call_of ?_
      simp (disch := first | omega | assumption) only [C.cut_take_gos, vs, Go.Vc.vk, T.ts, ↓reduceIte, Nat.reduceEqDiff, reduceCtorEq, Nat.reduceLeDiff, Nat.reducePow, Int.reducePow, Int.reduceToNat, Nat.reduceAdd]
      refine (cfail_any 1 l.length H).mono ?_
      intro v4 h4 hp4
      have f4 := hp4.1
      have r4 := hp4.2
      clear hp4
      have hs4 : failS 1 l.length s = ⟨s.p, 1, l.length⟩ := by unfold failS; rw [if_pos he]
      rw [hs4] at r4
      have c24 : cellAt h4 ⟨g, 2, none⟩ = some (.int .i64 1) := r4.c2
      have hT : takeS l n s = ([], ⟨s.p, 1, l.length⟩) := by unfold takeS; rw [if_neg (by simp [he]), if_pos hlt]
      rw [hT]
      simp (disch := first | omega | assumption) only [C.cut_take_gos, vs, Go.Vc.vk, T.ts, ↓reduceIte, Nat.reduceEqDiff, reduceCtorEq, Nat.reduceLeDiff, Nat.reducePow, Int.reducePow, Int.reduceToNat, Nat.reduceAdd, c24, Int.reduceEq]
      exact ⟨f4, r4⟩
    · have q : ¬ (l.length : Int) < (s.p : Int) + (n : Int) := by omega
      have hT : takeS l n s = ((l.drop s.p).take n, ⟨s.p + n, 0, s.es⟩) := by unfold takeS; rw [if_neg (by simp [he]), if_neg hlt]
      rw [hT]
      have e1 : ((s.p : Int) + (n : Int)).toNat = s.p + n := by omega
      simp (disch := first | omega | assumption) only [C.cut_take_gos, vs, Go.Vc.vk, T.ts, ↓reduceIte, Nat.reduceEqDiff, reduceCtorEq, Nat.reduceLeDiff, Nat.reducePow, Int.reducePow, Int.reduceToNat, Nat.reduceAdd, c0, c1, c2, n0, eq_true he', q]
      refine eff_store1_z T.zr_3 rfl rfl rfl rfl rfl (u := .int .i64 s.p) c1 ?_ ?_
      · simp [frozenAt, H.1]
      have b1 := setAt_get (o := 1) H.1 (.int .i64 ((s.p : Int) + (n : Int)))
      simp (disch := first | omega | assumption) only [C.cut_take_gos, vs, Go.Vc.vk, T.ts, ↓reduceIte, Nat.reduceEqDiff, reduceCtorEq, Nat.reduceLeDiff, Nat.reducePow, Int.reducePow, Int.reduceToNat, Nat.reduceAdd, e1]
      refine ⟨Fr.set (S := fun k => k = g) _ _ _ fun _ => rfl, ⟨?_, by simp only; omega⟩, ?_⟩
      · rw [he] at b1; exact b1
      · rw [List.drop_take, Nat.add_sub_cancel_left]
  · have he' : ¬ (s.e : Int) = 0 := by omega
    have hT : takeS l n s = ([], s) := by unfold takeS; rw [if_pos he]
    rw [hT]
    simp (disch := first | omega | assumption) only [C.cut_take_gos, vs, Go.Vc.vk, T.ts, ↓reduceIte, Nat.reduceEqDiff, reduceCtorEq, Nat.reduceLeDiff, Nat.reducePow, Int.reducePow, Int.reduceToNat, Nat.reduceAdd, c0, c1, c2, eq_false he']
    exact ⟨Fr.refl _ _, H⟩
set_option maxHeartbeats 1000000 in
theorem cnum_any (n : Nat) (hl : l.length ≤ 1073741824) (hn : n ≤ 7) (H : Cutr h g l s) : HCalls Try.prog 31 #[.pointer (some ⟨g, 0, none⟩), .int .i64 n] h fun v h' => Fr (fun k => k = g) h h' ∧ Cutr h' g l (numS l n s).2 ∧ v = .int .i64 (numS l n s).1 := by
  refine C.cut_num_calls (args := [.pointer (some ⟨g, 0, none⟩), .int .i64 n]) rfl ?_
  simp (disch := first | omega | assumption) only [C.cut_num_gos, vs, Go.Vc.vk, T.ts, ↓reduceIte, Nat.reduceEqDiff, reduceCtorEq, Nat.reduceLeDiff, Nat.reducePow, Int.reducePow, Int.reduceToNat, Nat.reduceAdd]
  refine eff_call_of ?_
  simp (disch := first | omega | assumption) only [C.cut_num_gos, vs, Go.Vc.vk, T.ts, ↓reduceIte, Nat.reduceEqDiff, reduceCtorEq, Nat.reduceLeDiff, Nat.reducePow, Int.reducePow, Int.reduceToNat, Nat.reduceAdd]
  refine (ctake_any n hl (by omega) H).mono ?_
  rintro v1 h1 ⟨f1, r1, rfl⟩
  simp (disch := first | omega | assumption) only [C.cut_num_gos, vs, Go.Vc.vk, T.ts, ↓reduceIte, Nat.reduceEqDiff, reduceCtorEq, Nat.reduceLeDiff, Nat.reducePow, Int.reducePow, Int.reduceToNat, Nat.reduceAdd]
  refine eff_call_of ?_
  simp (disch := first | omega | assumption) only [C.cut_num_gos, vs, Go.Vc.vk, T.ts, ↓reduceIte, Nat.reduceEqDiff, reduceCtorEq, Nat.reduceLeDiff, Nat.reducePow, Int.reducePow, Int.reduceToNat, Nat.reduceAdd]
  have htl : (takeS l n s).1.length ≤ n := takeS_len
  refine (rnum_any (takeS l n s).1 h1 (by omega)).mono ?_
  rintro v2 h2 ⟨rfl, rfl⟩
  have hb : (numS l n s).1 < 256 ^ 7 := Nat.lt_of_lt_of_le numS_lt (Nat.pow_le_pow_right (by decide) hn)
  have h7 : (256 : Nat) ^ 7 = 72057594037927936 := by decide
  have hw : IntKind.i64.wrap (numB (takeS l n s).1 : Int) = (numB (takeS l n s).1 : Int) := wrap_i64 (by omega) (by
    have : (numS l n s).1 = numB (takeS l n s).1 := rfl
    omega)
  simp (disch := first | omega | assumption) only [C.cut_num_gos, vs, Go.Vc.vk, T.ts, ↓reduceIte, Nat.reduceEqDiff, reduceCtorEq, Nat.reduceLeDiff, Nat.reducePow, Int.reducePow, Int.reduceToNat, Nat.reduceAdd, hw]
  exact ⟨f1, r1, rfl⟩
end
end Go.Proofs.Ytohkbpnblkkdgaa

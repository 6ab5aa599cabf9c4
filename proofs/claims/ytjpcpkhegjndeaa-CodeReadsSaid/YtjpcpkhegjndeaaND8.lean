/- The reference's reader of bytes (cut). -/
import Derived.Test.YtjpcpkhegjndeaaND7
import Derived.Test.YtjpcpkhegjndeaaCh
namespace Go.Proofs.Ytjpcpkhegjndeaa
open Go.Vc
set_option maxRecDepth 100000
set_option linter.unusedSimpArgs false
set_option linter.unusedVariables false

set_option maxHeartbeats 1000000 in
theorem rnum_any (bs : List UInt8) (h : Heap) (hb : bs.length ≤ 8) : HCalls Try.prog 47 #[str bs] h fun v h' => h' = h ∧ v = .int .u64 (numB bs) := by
  refine C.ref1_Num_calls (args := [str bs]) rfl ?_
  simp (disch := first | omega | assumption) only [C.ref1_Num_gos, vs, Go.Vc.vk, T.ts, ↓reduceIte, Nat.reduceEqDiff, reduceCtorEq, Nat.reduceLeDiff, Nat.reducePow, Int.reducePow, Int.reduceToNat, Nat.reduceAdd]
  refine loop_intro [0, 3, 4] (fun m ρ hc => ∃ i : Nat, m = bs.length - i ∧ i ≤ bs.length ∧ ρ = [(0, str bs), (3, .int .u64 (numB (bs.take i))), (4, .int .i64 i)] ∧ hc = h) ?_ ?_
  · simp (disch := first | omega | assumption) only [C.ref1_Num_gos, vs, Go.Vc.vk, T.ts, ↓reduceIte, Nat.reduceEqDiff, reduceCtorEq, Nat.reduceLeDiff, Nat.reducePow, Int.reducePow, Int.reduceToNat, Nat.reduceAdd]
    exact ⟨_, 0, rfl, Nat.zero_le _, by simp [numB]⟩
  · rintro m ρ hc ⟨i, rfl, hi, rfl, rfl⟩
    rcases Nat.lt_or_ge i bs.length with hlt | hge
    · have hlt' : (i : Int) < bs.length := by omega
      have hx := numB_lt (bs.take i)
      have hp : 256 ^ (bs.take i).length ≤ 256 ^ 7 := Nat.pow_le_pow_right (by decide) (by simp; omega)
      have hx2 : numB (bs.take i) < 72057594037927936 := by
        have : (256 : Nat) ^ 7 = 72057594037927936 := by decide
        omega
      have hb8 := UInt8.toNat_lt (bs.getD i 0)
      simp only [Nat.reducePow] at hb8
      have hw1 : IntKind.u64.wrap ((numB (bs.take i) : Int) * 256) = (numB (bs.take i) : Int) * 256 := wrap_u64 (by omega) (by omega)
      have hw2 : IntKind.u64.wrap ((bs.getD i 0).toNat : Int) = ((bs.getD i 0).toNat : Int) := wrap_u64 (by omega) (by omega)
      have hw3 : IntKind.u64.wrap ((numB (bs.take i) : Int) * 256 + ((bs.getD i 0).toNat : Int)) = ((numB (bs.take i) * 256 + (bs.getD i 0).toNat : Nat) : Int) := by rw [wrap_u64 (by omega) (by omega)]; omega
      have hst : numB (bs.take (i + 1)) = numB (bs.take i) * 256 + (bs.getD i 0).toNat := by
        rw [List.take_succ_eq_append_getElem hlt, numB_append]; simp [hlt]
      simp (disch := first | omega | assumption) only [C.ref1_Num_gos, vs, Go.Vc.vk, T.ts, ↓reduceIte, Nat.reduceEqDiff, reduceCtorEq, Nat.reduceLeDiff, Nat.reducePow, Int.reducePow, Int.reduceToNat, Nat.reduceAdd, hlt', hw1, hw2, hw3]
      exact ⟨bs.length - (i + 1), by omega, i + 1, rfl, by omega, by rw [hst]; rfl⟩
    · have hlt' : ¬ (i : Int) < bs.length := by omega
      have hin : i = bs.length := by omega
      subst hin
      rw [List.take_length]
      simp (disch := first | omega | assumption) only [C.ref1_Num_gos, vs, Go.Vc.vk, T.ts, ↓reduceIte, Nat.reduceEqDiff, reduceCtorEq, Nat.reduceLeDiff, Nat.reducePow, Int.reducePow, Int.reduceToNat, Nat.reduceAdd, hlt']


def Cutr (h : Heap) (g : Nat) (l : List UInt8) (s : RS) : Prop :=
  h[g]? = some (.cells #[str l, .int .i64 s.p, .int .i64 s.e, .int .i64 s.es] 61 (0, 0)) ∧ s.p ≤ l.length
def takeR (l : List UInt8) (n : Nat) (s : RS) : List UInt8 := if (takeS l n s).2.e ≠ 0 then List.replicate n 0 else (takeS l n s).1
theorem numB_zeros (n : Nat) : numB (List.replicate n 0) = 0 := by
  induction n with
  | zero => rfl
  | succ n ih => rw [List.replicate_succ', numB_append, ih]; rfl
theorem takeR_num (l : List UInt8) (n : Nat) (s : RS) : numB (takeR l n s) = (numS l n s).1 := by
  unfold takeR
  split
  · rename_i h
    rw [numB_zeros]
    show 0 = numB (takeS l n s).1
    unfold takeS at h ⊢
    split
    · rfl
    · split
      · rfl
      · rename_i h1 h2
        rw [if_neg h1, if_neg h2] at h
        exact absurd rfl h
  · rfl
theorem takeR_len (l : List UInt8) (n : Nat) (s : RS) : (takeR l n s).length = n := by
  unfold takeR
  split
  · simp
  · rename_i h
    unfold takeS at h ⊢
    split
    · rename_i h1
      rw [if_pos h1] at h
      exact absurd h1 h
    · rename_i h1
      split
      · rename_i h2
        rw [if_neg h1, if_pos h2] at h
        exact absurd (show (1 : Nat) ≠ 0 by decide) h
      · simp; omega
section
variable {h : Heap} {g : Nat} {l : List UInt8} {s : RS}
theorem Cutr.lt (H : Cutr h g l s) : g < h.size := (Array.getElem?_eq_some_iff.1 H.1).1
theorem Cutr.c0 (H : Cutr h g l s) : cellAt h ⟨g, 0, none⟩ = some (str l) := by rw [cellAt_of H.1]; rfl
theorem Cutr.c1 (H : Cutr h g l s) : cellAt h ⟨g, 1, none⟩ = some (.int .i64 (s.p : Int)) := by rw [cellAt_of H.1]; rfl
theorem Cutr.c2 (H : Cutr h g l s) : cellAt h ⟨g, 2, none⟩ = some (.int .i64 (s.e : Int)) := by rw [cellAt_of H.1]; rfl
theorem Cutr.c3 (H : Cutr h g l s) : cellAt h ⟨g, 3, none⟩ = some (.int .i64 (s.es : Int)) := by rw [cellAt_of H.1]; rfl
theorem Cutr.fr {S : Nat → Prop} {h' : Heap} (H : Cutr h g l s) (hf : Fr S h h') (hS : ¬ S g) : Cutr h' g l s := ⟨by rw [hf.same g H.lt hS, H.1], H.2⟩
theorem cfail_any (e q : Nat) (H : Cutr h g l s) : HCalls Try.prog 27 #[.pointer (some ⟨g, 0, none⟩), .int .i64 e, .int .i64 q] h fun v h' => Fr (fun k => k = g) h h' ∧ Cutr h' g l (failS e q s) := by
  refine C.cut_fail_calls (args := [.pointer (some ⟨g, 0, none⟩), .int .i64 e, .int .i64 q]) rfl ?_
  have c2 := H.c2
  by_cases he : s.e = 0
  · have he' : (s.e : Int) = 0 := by omega
    simp (disch := first | omega | assumption) only [C.cut_fail_gos, vs, Go.Vc.vk, T.ts, ↓reduceIte, Nat.reduceEqDiff, reduceCtorEq, Nat.reduceLeDiff, Nat.reducePow, Int.reducePow, Int.reduceToNat, Nat.reduceAdd, c2, eq_true he']
    refine eff_store1_z T.zr_25 rfl rfl rfl rfl rfl (u := .int .i64 s.e) c2 ?_ ?_
    · simp [frozenAt, H.1]
    have b1 := setAt_get (o := 2) H.1 (.int .i64 (e : Int))
    simp (disch := first | omega | assumption) only [C.cut_fail_gos, vs, Go.Vc.vk, T.ts, ↓reduceIte, Nat.reduceEqDiff, reduceCtorEq, Nat.reduceLeDiff, Nat.reducePow, Int.reducePow, Int.reduceToNat, Nat.reduceAdd]
    have hc : cellAt (setAt h ⟨g, 2, none⟩ (.int .i64 (e : Int))) ⟨g, 3, none⟩ = some (.int .i64 s.es) := by rw [cellAt_of b1]; rfl
    refine eff_store1_z T.zr_3 rfl rfl rfl rfl rfl (u := .int .i64 s.es) hc ?_ ?_
    · simp [frozenAt, b1]
    have b2 := setAt_get (o := 3) b1 (.int .i64 (q : Int))
    simp (disch := first | omega | assumption) only [C.cut_fail_gos, vs, Go.Vc.vk, T.ts, ↓reduceIte, Nat.reduceEqDiff, reduceCtorEq, Nat.reduceLeDiff, Nat.reducePow, Int.reducePow, Int.reduceToNat, Nat.reduceAdd]
    refine ⟨Fr.trans (Fr.set (S := fun k => k = g) _ _ _ fun _ => rfl) (Fr.set (S := fun k => k = g) _ _ _ fun _ => rfl) (fun _ _ h => h) (fun _ _ h => h), ?_⟩
    unfold failS
    rw [if_pos he]
    exact ⟨b2, H.2⟩
  · have he' : ¬ (s.e : Int) = 0 := by omega
    simp (disch := first | omega | assumption) only [C.cut_fail_gos, vs, Go.Vc.vk, T.ts, ↓reduceIte, Nat.reduceEqDiff, reduceCtorEq, Nat.reduceLeDiff, Nat.reducePow, Int.reducePow, Int.reduceToNat, Nat.reduceAdd, c2, eq_false he']
    unfold failS
    rw [if_neg he]
    exact ⟨Fr.refl _ _, H⟩

set_option maxHeartbeats 2000000 in
theorem ctake_any (n : Nat) (hl : l.length ≤ 1073741824) (hn : n ≤ 8) (H : Cutr h g l s) : HCalls Try.prog 48 #[.pointer (some ⟨g, 0, none⟩), .int .i64 n] h fun v h' => Fr (fun k => k = g) h h' ∧ Cutr h' g l (takeS l n s).2 ∧ v = str (takeR l n s) := by
  refine C.cut_take_calls (args := [.pointer (some ⟨g, 0, none⟩), .int .i64 n]) rfl ?_
  have c0 := H.c0
  have c1 := H.c1
  have c2 := H.c2
  have h2 := H.2
  have hml : n ≤ maxLen := by
    have : maxLen = 9223372036854775807 := by decide +kernel
    omega
  have zeros : ∀ (h1 : Heap) (s1 : RS), Cutr h1 g l s1 → s1.e ≠ 0 → Fr (fun k => k = g) h h1 → ∀ cs : Array Value, ∀ z i, Try.prog.info? 5 = some i → i.zero = some z → cs = madeCells z.cells (((n : Nat) : Int).toNat * 1) →
      cs = (bytesV (List.replicate n 0)).toArray := by
    intro h1 s1 _ _ _ cs z i hi hz hcs
    have hz1 : z.cells = #[.int .u8 0] := by
      obtain ⟨ii', z', w1, w2, w3, _⟩ := zr_spec T.zr_5
      rw [hi] at w1; cases w1
      rw [hz] at w2; cases w2
      exact w3
    rw [hcs, hz1, show ((n : Nat) : Int).toNat * 1 = n by omega]
    apply Array.ext
    · simp [madeCells, bytesV]
    · intro i h1 h2
      simp [madeCells, bytesV, Nat.mod_one]
  by_cases he : s.e = 0
  · have he' : (s.e : Int) = 0 := by omega
    by_cases hlt : l.length < s.p + n
    · have q : (l.length : Int) < (s.p : Int) + (n : Int) := by omega
      simp (disch := first | omega | assumption) only [C.cut_take_gos, vs, Go.Vc.vk, T.ts, ↓reduceIte, Nat.reduceEqDiff, reduceCtorEq, Nat.reduceLeDiff, Nat.reducePow, Int.reducePow, Int.reduceToNat, Nat.reduceAdd, c0, c1, c2, eq_true he', q]
      refine eff_call_of ?_
      simp (disch := first | omega | assumption) only [C.cut_take_gos, vs, Go.Vc.vk, T.ts, ↓reduceIte, Nat.reduceEqDiff, reduceCtorEq, Nat.reduceLeDiff, Nat.reducePow, Int.reducePow, Int.reduceToNat, Nat.reduceAdd]
      refine (cfail_any 1 l.length H).mono ?_
      intro v4 h4 hp4
      have f4 := hp4.1
      have r4 := hp4.2
      clear hp4
      have hs4 : failS 1 l.length s = ⟨s.p, 1, l.length⟩ := by unfold failS; rw [if_pos he]
      rw [hs4] at r4
      have c24 : cellAt h4 ⟨g, 2, none⟩ = some (.int .i64 1) := r4.c2
      have hT : takeS l n s = ([], ⟨s.p, 1, l.length⟩) := by unfold takeS; rw [if_neg (by simp [he]), if_pos hlt]
      have hR : takeR l n s = List.replicate n 0 := by unfold takeR; rw [hT]; rfl
      rw [hT, hR]
      simp (disch := first | omega | assumption) only [C.cut_take_gos, vs, Go.Vc.vk, T.ts, ↓reduceIte, Nat.reduceEqDiff, reduceCtorEq, Nat.reduceLeDiff, Nat.reducePow, Int.reducePow, Int.reduceToNat, Nat.reduceAdd, c24, Int.reduceEq]
      refine eff_make T.slT_37 rfl rfl (by omega) (by omega) (by omega) ?_
      intro cs z i hi hz hcs
      have hcs2 := zeros h4 _ r4 (show (1 : Nat) ≠ 0 by decide) f4 cs z i hi hz hcs
      subst hcs2
      have own : Own (h4.push (.cells (bytesV (List.replicate n 0)).toArray 5)) 0 5 1 (.slice (some ⟨h4.size, 0, none⟩) n n) n (bytesV (List.replicate n 0)) := Own.new (by simp [bytesV]) hml (Nat.zero_le _)
      rw [show ((n : Nat) : Int).toNat = n by omega]
      simp (disch := first | omega | assumption) only [C.cut_take_gos, vs, Go.Vc.vk, T.ts, ↓reduceIte, Nat.reduceEqDiff, reduceCtorEq, Nat.reduceLeDiff, Nat.reducePow, Int.reducePow, Int.reduceToNat, Nat.reduceAdd, T.cvo_37_9 own]
      exact ⟨Fr.trans f4 (Ext.push _ _) (fun _ _ h => h) (fun _ _ h => h.elim), r4.fr (Ext.push _ _) id⟩
    · have q : ¬ (l.length : Int) < (s.p : Int) + (n : Int) := by omega
      have hT : takeS l n s = ((l.drop s.p).take n, ⟨s.p + n, 0, s.es⟩) := by unfold takeS; rw [if_neg (by simp [he]), if_neg hlt]
      have hR : takeR l n s = (l.drop s.p).take n := by unfold takeR; rw [hT]; rfl
      rw [hT, hR]
      have e1 : ((s.p : Int) + (n : Int)).toNat = s.p + n := by omega
      simp (disch := first | omega | assumption) only [C.cut_take_gos, vs, Go.Vc.vk, T.ts, ↓reduceIte, Nat.reduceEqDiff, reduceCtorEq, Nat.reduceLeDiff, Nat.reducePow, Int.reducePow, Int.reduceToNat, Nat.reduceAdd, c0, c1, c2, eq_true he', q]
      refine eff_store1_z T.zr_3 rfl rfl rfl rfl rfl (u := .int .i64 s.p) c1 ?_ ?_
      · simp [frozenAt, H.1]
      have b1 := setAt_get (o := 1) H.1 (.int .i64 ((s.p : Int) + (n : Int)))
      simp (disch := first | omega | assumption) only [C.cut_take_gos, vs, Go.Vc.vk, T.ts, ↓reduceIte, Nat.reduceEqDiff, reduceCtorEq, Nat.reduceLeDiff, Nat.reducePow, Int.reducePow, Int.reduceToNat, Nat.reduceAdd, e1]
      refine ⟨Fr.set (S := fun k => k = g) _ _ _ fun _ => rfl, ⟨?_, by simp only; omega⟩, ?_⟩
      · rw [he] at b1; exact b1
      · rw [List.drop_take, Nat.add_sub_cancel_left]
  · have he' : ¬ (s.e : Int) = 0 := by omega
    have hT : takeS l n s = ([], s) := by unfold takeS; rw [if_pos he]
    have hR : takeR l n s = List.replicate n 0 := by unfold takeR; rw [hT, if_pos he]
    rw [hT, hR]
    simp (disch := first | omega | assumption) only [C.cut_take_gos, vs, Go.Vc.vk, T.ts, ↓reduceIte, Nat.reduceEqDiff, reduceCtorEq, Nat.reduceLeDiff, Nat.reducePow, Int.reducePow, Int.reduceToNat, Nat.reduceAdd, c0, c1, c2, eq_false he']
    refine eff_make T.slT_37 rfl rfl (by omega) (by omega) (by omega) ?_
    intro cs z i hi hz hcs
    have hcs2 := zeros h _ H he (Fr.refl _ _) cs z i hi hz hcs
    subst hcs2
    have own : Own (h.push (.cells (bytesV (List.replicate n 0)).toArray 5)) 0 5 1 (.slice (some ⟨h.size, 0, none⟩) n n) n (bytesV (List.replicate n 0)) := Own.new (by simp [bytesV]) hml (Nat.zero_le _)
    rw [show ((n : Nat) : Int).toNat = n by omega]
    simp (disch := first | omega | assumption) only [C.cut_take_gos, vs, Go.Vc.vk, T.ts, ↓reduceIte, Nat.reduceEqDiff, reduceCtorEq, Nat.reduceLeDiff, Nat.reducePow, Int.reducePow, Int.reduceToNat, Nat.reduceAdd, T.cvo_37_9 own]
    exact ⟨Fr.mono (Ext.push _ _) (fun _ _ h => h.elim), H.fr (Ext.push _ _) id⟩
set_option maxHeartbeats 1000000 in
theorem cnum_any (n : Nat) (hl : l.length ≤ 1073741824) (hn : n ≤ 7) (H : Cutr h g l s) : HCalls Try.prog 38 #[.pointer (some ⟨g, 0, none⟩), .int .i64 n] h fun v h' => Fr (fun k => k = g) h h' ∧ Cutr h' g l (numS l n s).2 ∧ v = .int .i64 (numS l n s).1 := by
  refine C.cut_num_calls (args := [.pointer (some ⟨g, 0, none⟩), .int .i64 n]) rfl ?_
  simp (disch := first | omega | assumption) only [C.cut_num_gos, vs, Go.Vc.vk, T.ts, ↓reduceIte, Nat.reduceEqDiff, reduceCtorEq, Nat.reduceLeDiff, Nat.reducePow, Int.reducePow, Int.reduceToNat, Nat.reduceAdd]
  refine eff_call_of ?_
  simp (disch := first | omega | assumption) only [C.cut_num_gos, vs, Go.Vc.vk, T.ts, ↓reduceIte, Nat.reduceEqDiff, reduceCtorEq, Nat.reduceLeDiff, Nat.reducePow, Int.reducePow, Int.reduceToNat, Nat.reduceAdd]
  refine (ctake_any n hl (by omega) H).mono ?_
  rintro v1 h1 ⟨f1, r1, rfl⟩
  simp (disch := first | omega | assumption) only [C.cut_num_gos, vs, Go.Vc.vk, T.ts, ↓reduceIte, Nat.reduceEqDiff, reduceCtorEq, Nat.reduceLeDiff, Nat.reducePow, Int.reducePow, Int.reduceToNat, Nat.reduceAdd]
  refine eff_call_of ?_
  simp (disch := first | omega | assumption) only [C.cut_num_gos, vs, Go.Vc.vk, T.ts, ↓reduceIte, Nat.reduceEqDiff, reduceCtorEq, Nat.reduceLeDiff, Nat.reducePow, Int.reducePow, Int.reduceToNat, Nat.reduceAdd]
  refine (rnum_any (takeR l n s) h1 (by rw [takeR_len]; omega)).mono ?_
  rintro v2 h2 ⟨rfl, rfl⟩
  rw [takeR_num]
  have hb : (numS l n s).1 < 256 ^ 7 := Nat.lt_of_lt_of_le numS_lt (Nat.pow_le_pow_right (by decide) hn)
  have h7 : (256 : Nat) ^ 7 = 72057594037927936 := by decide
  have hw : IntKind.i64.wrap ((numS l n s).1 : Int) = ((numS l n s).1 : Int) := wrap_i64 (by omega) (by omega)
  simp (disch := first | omega | assumption) only [C.cut_num_gos, vs, Go.Vc.vk, T.ts, ↓reduceIte, Nat.reduceEqDiff, reduceCtorEq, Nat.reduceLeDiff, Nat.reducePow, Int.reducePow, Int.reduceToNat, Nat.reduceAdd, hw]
  exact ⟨f1, r1⟩
set_option maxHeartbeats 1000000 in
theorem rsigned_any (bs : List UInt8) (n : Nat) (hb : bs.length = n) (hn : n = 1 ∨ n = 2 ∨ n = 4) (h : Heap) : HCalls Try.prog 49 #[str bs] h fun v h' => h' = h ∧ v = .int .i64 (sgnN (numB bs) n) := by
  refine C.ref2_signed_calls (args := [str bs]) rfl ?_
  simp (disch := first | omega | assumption) only [C.ref2_signed_gos, vs, Go.Vc.vk, T.ts, ↓reduceIte, Nat.reduceEqDiff, reduceCtorEq, Nat.reduceLeDiff, Nat.reducePow, Int.reducePow, Int.reduceToNat, Nat.reduceAdd]
  refine eff_call_of ?_
  simp (disch := first | omega | assumption) only [C.ref2_signed_gos, vs, Go.Vc.vk, T.ts, ↓reduceIte, Nat.reduceEqDiff, reduceCtorEq, Nat.reduceLeDiff, Nat.reducePow, Int.reducePow, Int.reduceToNat, Nat.reduceAdd]
  refine (rnum_any bs h (by omega)).mono ?_
  rintro v2 h2 ⟨rfl, rfl⟩
  have hx := numB_lt bs
  rw [hb] at hx
  have hlen : (bs.length : Int) = (n : Int) := by omega
  generalize numB bs = x at *
  rcases hn with rfl | rfl | rfl
  · have hx : x < 256 := hx
    have hw : IntKind.i64.wrap (x : Int) = (x : Int) := wrap_i64 (by omega) (by omega)
    rw [show ((1 : Nat) : Int) = 1 from rfl] at hlen
    by_cases g : 128 ≤ x
    · have g' : (128 : Int) ≤ x := by omega
      have e : sgnN x 1 = (x : Int) - 256 := by unfold sgnN; rw [if_pos (by simpa using g)]; rfl
      rw [e]
      simp (disch := first | omega | assumption) only [C.ref2_signed_gos, vs, Go.Vc.vk, T.ts, ↓reduceIte, Nat.reduceEqDiff, reduceCtorEq, Nat.reduceLeDiff, Nat.reducePow, Int.reducePow, Int.reduceToNat, Nat.reduceAdd, hw, hlen, g', Int.reduceMul, Int.reduceToNat, Int.reducePow, Int.reduceSub, Nat.reduceLeDiff]
    · have g' : ¬ (128 : Int) ≤ x := by omega
      have e : sgnN x 1 = (x : Int) := by unfold sgnN; rw [if_neg (by simpa using g)]
      rw [e]
      simp (disch := first | omega | assumption) only [C.ref2_signed_gos, vs, Go.Vc.vk, T.ts, ↓reduceIte, Nat.reduceEqDiff, reduceCtorEq, Nat.reduceLeDiff, Nat.reducePow, Int.reducePow, Int.reduceToNat, Nat.reduceAdd, hw, hlen, g', Int.reduceMul, Int.reduceToNat, Int.reducePow, Int.reduceSub, Nat.reduceLeDiff]
  · have hx : x < 65536 := hx
    have hw : IntKind.i64.wrap (x : Int) = (x : Int) := wrap_i64 (by omega) (by omega)
    rw [show ((2 : Nat) : Int) = 2 from rfl] at hlen
    by_cases g : 32768 ≤ x
    · have g' : (32768 : Int) ≤ x := by omega
      have e : sgnN x 2 = (x : Int) - 65536 := by unfold sgnN; rw [if_pos (by simpa using g)]; rfl
      rw [e]
      simp (disch := first | omega | assumption) only [C.ref2_signed_gos, vs, Go.Vc.vk, T.ts, ↓reduceIte, Nat.reduceEqDiff, reduceCtorEq, Nat.reduceLeDiff, Nat.reducePow, Int.reducePow, Int.reduceToNat, Nat.reduceAdd, hw, hlen, g', Int.reduceMul, Int.reduceToNat, Int.reducePow, Int.reduceSub, Nat.reduceLeDiff]
    · have g' : ¬ (32768 : Int) ≤ x := by omega
      have e : sgnN x 2 = (x : Int) := by unfold sgnN; rw [if_neg (by simpa using g)]
      rw [e]
      simp (disch := first | omega | assumption) only [C.ref2_signed_gos, vs, Go.Vc.vk, T.ts, ↓reduceIte, Nat.reduceEqDiff, reduceCtorEq, Nat.reduceLeDiff, Nat.reducePow, Int.reducePow, Int.reduceToNat, Nat.reduceAdd, hw, hlen, g', Int.reduceMul, Int.reduceToNat, Int.reducePow, Int.reduceSub, Nat.reduceLeDiff]
  · have hx : x < 4294967296 := hx
    have hw : IntKind.i64.wrap (x : Int) = (x : Int) := wrap_i64 (by omega) (by omega)
    rw [show ((4 : Nat) : Int) = 4 from rfl] at hlen
    by_cases g : 2147483648 ≤ x
    · have g' : (2147483648 : Int) ≤ x := by omega
      have e : sgnN x 4 = (x : Int) - 4294967296 := by unfold sgnN; rw [if_pos (by simpa using g)]; rfl
      rw [e]
      simp (disch := first | omega | assumption) only [C.ref2_signed_gos, vs, Go.Vc.vk, T.ts, ↓reduceIte, Nat.reduceEqDiff, reduceCtorEq, Nat.reduceLeDiff, Nat.reducePow, Int.reducePow, Int.reduceToNat, Nat.reduceAdd, hw, hlen, g', Int.reduceMul, Int.reduceToNat, Int.reducePow, Int.reduceSub, Nat.reduceLeDiff]
    · have g' : ¬ (2147483648 : Int) ≤ x := by omega
      have e : sgnN x 4 = (x : Int) := by unfold sgnN; rw [if_neg (by simpa using g)]
      rw [e]
      simp (disch := first | omega | assumption) only [C.ref2_signed_gos, vs, Go.Vc.vk, T.ts, ↓reduceIte, Nat.reduceEqDiff, reduceCtorEq, Nat.reduceLeDiff, Nat.reducePow, Int.reducePow, Int.reduceToNat, Nat.reduceAdd, hw, hlen, g', Int.reduceMul, Int.reduceToNat, Int.reducePow, Int.reduceSub, Nat.reduceLeDiff]
set_option maxHeartbeats 1000000 in
theorem csgn_any (n : Nat) (hn : n = 1 ∨ n = 2 ∨ n = 4) (hl : l.length ≤ 1073741824) (H : Cutr h g l s) : HCalls Try.prog 39 #[.pointer (some ⟨g, 0, none⟩), .int .i64 n] h fun v h' => Fr (fun k => k = g) h h' ∧ Cutr h' g l (sgnD l n s).2 ∧ v = .int .i64 (sgnD l n s).1 := by
  refine C.cut_signed_calls (args := [.pointer (some ⟨g, 0, none⟩), .int .i64 n]) rfl ?_
  simp (disch := first | omega | assumption) only [C.cut_signed_gos, vs, Go.Vc.vk, T.ts, ↓reduceIte, Nat.reduceEqDiff, reduceCtorEq, Nat.reduceLeDiff, Nat.reducePow, Int.reducePow, Int.reduceToNat, Nat.reduceAdd]
  refine eff_call_of ?_
  simp (disch := first | omega | assumption) only [C.cut_signed_gos, vs, Go.Vc.vk, T.ts, ↓reduceIte, Nat.reduceEqDiff, reduceCtorEq, Nat.reduceLeDiff, Nat.reducePow, Int.reducePow, Int.reduceToNat, Nat.reduceAdd]
  refine (ctake_any n hl (by omega) H).mono ?_
  rintro v1 h1 ⟨f1, r1, rfl⟩
  simp (disch := first | omega | assumption) only [C.cut_signed_gos, vs, Go.Vc.vk, T.ts, ↓reduceIte, Nat.reduceEqDiff, reduceCtorEq, Nat.reduceLeDiff, Nat.reducePow, Int.reducePow, Int.reduceToNat, Nat.reduceAdd]
  refine eff_call_of ?_
  simp (disch := first | omega | assumption) only [C.cut_signed_gos, vs, Go.Vc.vk, T.ts, ↓reduceIte, Nat.reduceEqDiff, reduceCtorEq, Nat.reduceLeDiff, Nat.reducePow, Int.reducePow, Int.reduceToNat, Nat.reduceAdd]
  refine (rsigned_any (takeR l n s) n (takeR_len l n s) hn h1).mono ?_
  rintro v2 h2 ⟨rfl, rfl⟩
  rw [takeR_num]
  simp (disch := first | omega | assumption) only [C.cut_signed_gos, vs, Go.Vc.vk, T.ts, ↓reduceIte, Nat.reduceEqDiff, reduceCtorEq, Nat.reduceLeDiff, Nat.reducePow, Int.reducePow, Int.reduceToNat, Nat.reduceAdd]
  first | exact ⟨f1, r1, rfl⟩ | exact ⟨f1, r1⟩
end
end Go.Proofs.Ytjpcpkhegjndeaa

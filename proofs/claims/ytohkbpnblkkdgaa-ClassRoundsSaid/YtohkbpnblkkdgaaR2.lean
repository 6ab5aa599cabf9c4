/- The reader's functions, one by one. -/
import Derived.Test.YtohkbpnblkkdgaaR1
namespace Go.Proofs.Ytohkbpnblkkdgaa
open Go.Vc
set_option maxRecDepth 100000
set_option linter.unusedSimpArgs false
set_option linter.unusedVariables false
section
variable {h : Heap} {g : Nat} {l : List UInt8} {s : RS}

theorem newReader_any (l : List UInt8) (h : Heap) : HCalls Try.prog 22 #[str l] h fun v h' => Ext h h' ∧ v = .pointer (some ⟨h.size, 0, none⟩) ∧ Rdr h' h.size l ⟨0, 0, 0⟩ ∧ h.size < h'.size := by
  refine C.pool_NewReader_calls (args := [str l]) rfl ?_
  simp (disch := first | omega | assumption) only [C.pool_NewReader_gos, T.tv, ↓reduceIte, Nat.reduceEqDiff, reduceCtorEq, Nat.reduceLeDiff, Nat.reducePow, Int.reducePow, Int.reduceToNat, Nat.reduceAdd]
  refine eff_box ?_
  simp (disch := first | omega | assumption) only [C.pool_NewReader_gos, T.tv, ↓reduceIte, Nat.reduceEqDiff, reduceCtorEq, Nat.reduceLeDiff, Nat.reducePow, Int.reducePow, Int.reduceToNat, Nat.reduceAdd]
  exact ⟨Ext.push _ _, ⟨by simp, Nat.zero_le _⟩, by simp⟩
theorem err_any (H : Rdr h g l s) : HCalls Try.prog 30 #[.pointer (some ⟨g, 0, none⟩)] h fun v h' => h' = h ∧ v = .tuple #[.int .i64 s.e, .int .i64 s.es] := by
  refine C.Reader_Err_calls (args := [.pointer (some ⟨g, 0, none⟩)]) rfl ?_
  have c2 := H.c2
  have c3 := H.c3
  simp (disch := first | omega | assumption) only [C.Reader_Err_gos, T.tv, ↓reduceIte, Nat.reduceEqDiff, reduceCtorEq, Nat.reduceLeDiff, Nat.reducePow, Int.reducePow, Int.reduceToNat, Nat.reduceAdd, c2, c3]
theorem at_any (H : Rdr h g l s) : HCalls Try.prog 29 #[.pointer (some ⟨g, 0, none⟩)] h fun v h' => h' = h ∧ v = .int .i64 s.p := by
  refine C.Reader_At_calls (args := [.pointer (some ⟨g, 0, none⟩)]) rfl ?_
  have c1 := H.c1
  simp (disch := first | omega | assumption) only [C.Reader_At_gos, T.tv, ↓reduceIte, Nat.reduceEqDiff, reduceCtorEq, Nat.reduceLeDiff, Nat.reducePow, Int.reducePow, Int.reduceToNat, Nat.reduceAdd, c1]
theorem bad_any (H : Rdr h g l s) : HCalls Try.prog 25 #[.pointer (some ⟨g, 0, none⟩)] h fun v h' => h' = h ∧ v = .bool (decide (s.e ≠ 0)) := by
  refine C.Reader_Bad_calls (args := [.pointer (some ⟨g, 0, none⟩)]) rfl ?_
  have c2 := H.c2
  have hd : decide ¬ (s.e : Int) = 0 = decide ¬ s.e = 0 := by simp
  simp (disch := first | omega | assumption) only [C.Reader_Bad_gos, T.tv, ↓reduceIte, Nat.reduceEqDiff, reduceCtorEq, Nat.reduceLeDiff, Nat.reducePow, Int.reducePow, Int.reduceToNat, Nat.reduceAdd, c2, hd]
theorem left_any (hl : l.length ≤ 1073741824) (H : Rdr h g l s) : HCalls Try.prog 27 #[.pointer (some ⟨g, 0, none⟩)] h fun v h' => h' = h ∧ v = .int .i64 ((l.length - s.p : Nat) : Int) := by
  refine C.Reader_Left_calls (args := [.pointer (some ⟨g, 0, none⟩)]) rfl ?_
  have c0 := H.c0
  have c1 := H.c1
  have h2 := H.2
  have e : (l.length : Int) - (s.p : Int) = ((l.length - s.p : Nat) : Int) := by omega
  simp (disch := first | omega | assumption) only [C.Reader_Left_gos, T.tv, ↓reduceIte, Nat.reduceEqDiff, reduceCtorEq, Nat.reduceLeDiff, Nat.reducePow, Int.reducePow, Int.reduceToNat, Nat.reduceAdd, c0, c1, e]
theorem fail_any (e q : Nat) (H : Rdr h g l s) : HCalls Try.prog 28 #[.pointer (some ⟨g, 0, none⟩), .int .i64 e, .int .i64 q] h fun v h' => Fr (fun k => k = g) h h' ∧ Rdr h' g l (failS e q s) := by
  refine C.Reader_Fail_calls (args := [.pointer (some ⟨g, 0, none⟩), .int .i64 e, .int .i64 q]) rfl ?_
  have c2 := H.c2
  by_cases he : s.e = 0
  · have he' : (s.e : Int) = 0 := by omega
    simp (disch := first | omega | assumption) only [C.Reader_Fail_gos, T.tv, ↓reduceIte, Nat.reduceEqDiff, reduceCtorEq, Nat.reduceLeDiff, Nat.reducePow, Int.reducePow, Int.reduceToNat, Nat.reduceAdd, c2, eq_true he']
    refine eff_store1_z T.zr_27 rfl rfl rfl rfl rfl (u := .int .i64 s.e) c2 ?_ ?_
    · simp [frozenAt, H.1]
    have b1 := setAt_get (o := 2) H.1 (.int .i64 (e : Int))
    simp (disch := first | omega | assumption) only [C.Reader_Fail_gos, T.tv, ↓reduceIte, Nat.reduceEqDiff, reduceCtorEq, Nat.reduceLeDiff, Nat.reducePow, Int.reducePow, Int.reduceToNat, Nat.reduceAdd]
    have hc : cellAt (setAt h ⟨g, 2, none⟩ (.int .i64 (e : Int))) ⟨g, 3, none⟩ = some (.int .i64 s.es) := by rw [cellAt_of b1]; rfl
    refine eff_store1_z T.zr_3 rfl rfl rfl rfl rfl (u := .int .i64 s.es) hc ?_ ?_
    · simp [frozenAt, b1]
    have b2 := setAt_get (o := 3) b1 (.int .i64 (q : Int))
    simp (disch := first | omega | assumption) only [C.Reader_Fail_gos, T.tv, ↓reduceIte, Nat.reduceEqDiff, reduceCtorEq, Nat.reduceLeDiff, Nat.reducePow, Int.reducePow, Int.reduceToNat, Nat.reduceAdd]
    refine ⟨Fr.trans (Fr.set (S := fun k => k = g) _ _ _ fun _ => rfl) (Fr.set (S := fun k => k = g) _ _ _ fun _ => rfl) (fun _ _ h => h) (fun _ _ h => h), ?_⟩
    unfold failS
    rw [if_pos he]
    exact ⟨b2, H.2⟩
  · have he' : ¬ (s.e : Int) = 0 := by omega
    simp (disch := first | omega | assumption) only [C.Reader_Fail_gos, T.tv, ↓reduceIte, Nat.reduceEqDiff, reduceCtorEq, Nat.reduceLeDiff, Nat.reducePow, Int.reducePow, Int.reduceToNat, Nat.reduceAdd, c2, eq_false he']
    unfold failS
    rw [if_neg he]
    exact ⟨Fr.refl _ _, H⟩
theorem take_any (n : Nat) (hl : l.length ≤ 1073741824) (hn : n ≤ 1099511627776) (H : Rdr h g l s) : HCalls Try.prog 65 #[.pointer (some ⟨g, 0, none⟩), .int .i64 n] h fun v h' => Fr (fun k => k = g) h h' ∧ Rdr h' g l (takeS l n s).2 ∧ v = str (takeS l n s).1 := by
  refine C.Reader_Take_calls (args := [.pointer (some ⟨g, 0, none⟩), .int .i64 n]) rfl ?_
  simp (disch := first | omega | assumption) only [C.Reader_Take_gos, T.tv, ↓reduceIte, Nat.reduceEqDiff, reduceCtorEq, Nat.reduceLeDiff, Nat.reducePow, Int.reducePow, Int.reduceToNat, Nat.reduceAdd]
  refine eff_callF rfl ((bad_any H).mono ?_)
  rintro v1 h1 ⟨rfl, rfl⟩
  by_cases he : s.e = 0
  · have h2 := H.2
    have n0 : ¬ (n : Int) < 0 := by omega
    simp (disch := first | omega | assumption) only [C.Reader_Take_gos, T.tv, ↓reduceIte, Nat.reduceEqDiff, reduceCtorEq, Nat.reduceLeDiff, Nat.reducePow, Int.reducePow, Int.reduceToNat, Nat.reduceAdd, he, ne_eq, not_true_eq_false, decide_false]
    simp (disch := first | omega | assumption) only [C.Reader_Take_gos, T.tv, ↓reduceIte, Nat.reduceEqDiff, reduceCtorEq, Nat.reduceLeDiff, Nat.reducePow, Int.reducePow, Int.reduceToNat, Nat.reduceAdd, n0]
    refine eff_callF rfl ((left_any hl H).mono ?_)
    rintro v2 h3 ⟨rfl, rfl⟩
    have c0 := H.c0
    have c1 := H.c1
    by_cases hlt : l.length < s.p + n
    · have q : (((l.length - s.p : Nat) : Int)) < (n : Int) := by omega
      simp (disch := first | omega | assumption) only [C.Reader_Take_gos, T.tv, ↓reduceIte, Nat.reduceEqDiff, reduceCtorEq, Nat.reduceLeDiff, Nat.reducePow, Int.reducePow, Int.reduceToNat, Nat.reduceAdd, q, c0]
      refine eff_callF rfl ((fail_any 1 l.length H).mono ?_)
      rintro v4 h4 ⟨f4, r4⟩
      simp (disch := first | omega | assumption) only [C.Reader_Take_gos, T.tv, ↓reduceIte, Nat.reduceEqDiff, reduceCtorEq, Nat.reduceLeDiff, Nat.reducePow, Int.reducePow, Int.reduceToNat, Nat.reduceAdd]
      unfold takeS
      unfold failS at r4
      rw [if_pos he] at r4
      rw [if_neg (by simp [he]), if_pos hlt]
      exact ⟨f4, r4, rfl⟩
    · have q : ¬ (((l.length - s.p : Nat) : Int)) < (n : Int) := by omega
      simp (disch := first | omega | assumption) only [C.Reader_Take_gos, T.tv, ↓reduceIte, Nat.reduceEqDiff, reduceCtorEq, Nat.reduceLeDiff, Nat.reducePow, Int.reducePow, Int.reduceToNat, Nat.reduceAdd, q, c0, c1]
      refine eff_store1_z T.zr_3 rfl rfl rfl rfl rfl (u := .int .i64 s.p) c1 ?_ ?_
      · simp [frozenAt, H.1]
      have b1 := setAt_get (o := 1) H.1 (.int .i64 ((s.p : Int) + (n : Int)))
      simp (disch := first | omega | assumption) only [C.Reader_Take_gos, T.tv, ↓reduceIte, Nat.reduceEqDiff, reduceCtorEq, Nat.reduceLeDiff, Nat.reducePow, Int.reducePow, Int.reduceToNat, Nat.reduceAdd]
      unfold takeS
      rw [if_neg (by simp [he]), if_neg hlt]
      refine ⟨Fr.set (S := fun k => k = g) _ _ _ fun _ => rfl, ⟨?_, by simp only; omega⟩, ?_⟩
      · rw [he] at b1; exact b1
      · have e1 : ((s.p : Int) + (n : Int)).toNat = s.p + n := by omega
        rw [e1, List.drop_take, Nat.add_sub_cancel_left]
  · have he' : (decide (s.e ≠ 0)) = true := by simp [he]
    simp (disch := first | omega | assumption) only [C.Reader_Take_gos, T.tv, ↓reduceIte, Nat.reduceEqDiff, reduceCtorEq, Nat.reduceLeDiff, Nat.reducePow, Int.reducePow, Int.reduceToNat, Nat.reduceAdd, he']
    unfold takeS
    rw [if_pos he]
    exact ⟨Fr.refl _ _, H, rfl⟩
theorem bits_or_i64 (a b : Nat) (ha : a < 9223372036854775808) (hb : b < 9223372036854775808) : bitsV .or .i64 (a : Int) (b : Int) = ((a ||| b : Nat) : Int) := by
  have h1 : (BitVec.ofInt 64 (a : Int)) = BitVec.ofNat 64 a := by simp
  have h2 : (BitVec.ofInt 64 (b : Int)) = BitVec.ofNat 64 b := by simp
  have h3 : a ||| b < 9223372036854775808 := Nat.or_lt_two_pow (n := 63) ha hb
  show IntKind.i64.wrap (((BitVec.ofInt 64 (a : Int) ||| BitVec.ofInt 64 (b : Int)).toNat : Nat) : Int) = _
  rw [h1, h2, BitVec.toNat_or, BitVec.toNat_ofNat, BitVec.toNat_ofNat]
  rw [Nat.mod_eq_of_lt (by omega), Nat.mod_eq_of_lt (by omega), wrap_i64 (by omega) (by omega)]
theorem shl_or {x : Nat} (hx : x < 36028797018963968) (b : UInt8) : bitsV .or .i64 ((x : Int) * 256) (b.toNat : Int) = ((x * 256 + b.toNat : Nat) : Int) := by
  have hb := UInt8.toNat_lt b
  simp only [Nat.reducePow] at hb
  have h := bits_or_i64 (x * 256) b.toNat (by omega) (by omega)
  have h2 : x * 256 ||| b.toNat = x * 256 + b.toNat := or_add 8 x b.toNat (by omega)
  rw [h2] at h
  rw [← h, Int.natCast_mul]; rfl
set_option maxHeartbeats 1000000 in
theorem num_any (n : Nat) (hl : l.length ≤ 1073741824) (hn : n ≤ 7) (H : Rdr h g l s) : HCalls Try.prog 23 #[.pointer (some ⟨g, 0, none⟩), .int .i64 n] h fun v h' => Fr (fun k => k = g) h h' ∧ Rdr h' g l (numS l n s).2 ∧ v = .int .i64 (numS l n s).1 := by
  refine C.Reader_Num_calls (args := [.pointer (some ⟨g, 0, none⟩), .int .i64 n]) rfl ?_
  simp (disch := first | omega | assumption) only [C.Reader_Num_gos, T.tv, ↓reduceIte, Nat.reduceEqDiff, reduceCtorEq, Nat.reduceLeDiff, Nat.reducePow, Int.reducePow, Int.reduceToNat, Nat.reduceAdd]
  refine eff_callF rfl ((take_any n hl (by omega) H).mono ?_)
  rintro v1 h1 ⟨f1, r1, rfl⟩
  have ht : (takeS l n s).1.length ≤ n := takeS_len
  unfold numS
  generalize takeS l n s = tk at *
  obtain ⟨bs, s'⟩ := tk
  simp only at r1 ht ⊢
  simp (disch := first | omega | assumption) only [C.Reader_Num_gos, T.tv, ↓reduceIte, Nat.reduceEqDiff, reduceCtorEq, Nat.reduceLeDiff, Nat.reducePow, Int.reducePow, Int.reduceToNat, Nat.reduceAdd]
  refine eff_bytes_of (base := h1.size) Try.underlying9 Try.underlying69 Try.underlying5 rfl (Nat.le_refl _) (by omega) ?_
  intro sv h2 own2 x2
  obtain ⟨a, c, rfl, _⟩ := own2.sl
  have hbl : (bytesV bs).length = bs.length := by simp [bytesV]
  rw [hbl] at own2 ⊢
  have f2 : Fr (fun k => k = g) h h2 := Fr.trans f1 x2 (fun _ _ h => h) (fun _ _ h => h.elim)
  simp (disch := first | omega | assumption) only [C.Reader_Num_gos, T.tv, ↓reduceIte, Nat.reduceEqDiff, reduceCtorEq, Nat.reduceLeDiff, Nat.reducePow, Int.reducePow, Int.reduceToNat, Nat.reduceAdd]
  refine loop_intro [0, 1, 5, 11, 12, 13] (fun m ρ hc => ∃ i : Nat, m = bs.length - i ∧ i ≤ bs.length ∧
      ρ = [(0, .pointer (some ⟨g, 0, none⟩)), (1, .int .i64 n), (5, .int .i64 (numB (bs.take i))), (11, .slice a bs.length c), (12, .int .i64 bs.length), (13, .int .i64 i)] ∧ hc = h2) ?_ ?_
  · simp (disch := first | omega | assumption) only [C.Reader_Num_gos, T.tv, ↓reduceIte, Nat.reduceEqDiff, reduceCtorEq, Nat.reduceLeDiff, Nat.reducePow, Int.reducePow, Int.reduceToNat, Nat.reduceAdd]
    exact ⟨_, 0, rfl, Nat.zero_le _, by simp [numB]⟩
  · rintro m ρ hc ⟨i, rfl, hi, rfl, rfl⟩
    rcases Nat.lt_or_ge i bs.length with hlt | hge
    · have hlt' : (i : Int) < bs.length := by omega
      obtain ⟨b, o, c', heq, hb, hcell⟩ := own2.sl.at (i := i) (by rw [hbl]; exact hlt)
      rw [hbl] at heq
      cases heq
      have hg : (bytesV bs).getD i undef = .int .u8 ((bs.getD i 0).toNat : Int) := by simp [bytesV, hlt]
      rw [hg] at hcell
      have hx := numB_lt (bs.take i)
      have hp : 256 ^ (bs.take i).length ≤ 256 ^ 6 := Nat.pow_le_pow_right (by decide) (by simp; omega)
      have hx2 : numB (bs.take i) < 281474976710656 := by
        have : (256 : Nat) ^ 6 = 281474976710656 := by decide
        omega
      have hsh := shl_or (x := numB (bs.take i)) (by omega) (bs.getD i 0)
      have hb8 := UInt8.toNat_lt (bs.getD i 0)
      simp only [Nat.reducePow] at hb8
      have hst : numB (bs.take (i + 1)) = numB (bs.take i) * 256 + (bs.getD i 0).toNat := by
        rw [List.take_succ_eq_append_getElem hlt, numB_append]; simp [hlt]
      simp (disch := first | omega | assumption) only [C.Reader_Num_gos, T.tv, ↓reduceIte, Nat.reduceEqDiff, reduceCtorEq, Nat.reduceLeDiff, Nat.reducePow, Int.reducePow, Int.reduceToNat, Nat.reduceAdd, hlt', hcell, hsh]
      exact ⟨bs.length - (i + 1), by omega, i + 1, rfl, by omega, by rw [hst]; rfl⟩
    · have hlt' : ¬ (i : Int) < bs.length := by omega
      have hin : i = bs.length := by omega
      subst hin
      simp (disch := first | omega | assumption) only [C.Reader_Num_gos, T.tv, ↓reduceIte, Nat.reduceEqDiff, reduceCtorEq, Nat.reduceLeDiff, Nat.reducePow, Int.reducePow, Int.reduceToNat, Nat.reduceAdd, hlt']
      rw [List.take_length]
      exact ⟨f2, r1.fr x2 id, rfl⟩
theorem index_any (hl : l.length ≤ 1073741824) (H : Rdr h g l s) : HCalls Try.prog 52 #[.pointer (some ⟨g, 0, none⟩)] h fun v h' => Fr (fun k => k = g) h h' ∧ Rdr h' g l (numS l 2 s).2 ∧ v = .int .u16 (numS l 2 s).1 := by
  refine C.Reader_Index_calls (args := [.pointer (some ⟨g, 0, none⟩)]) rfl ?_
  simp (disch := first | omega | assumption) only [C.Reader_Index_gos, T.tv, ↓reduceIte, Nat.reduceEqDiff, reduceCtorEq, Nat.reduceLeDiff, Nat.reducePow, Int.reducePow, Int.reduceToNat, Nat.reduceAdd]
  refine eff_callF rfl ((num_any 2 hl (by omega) H).mono ?_)
  rintro v1 h1 ⟨f1, r1, rfl⟩
  have hlt : (numS l 2 s).1 < 65536 := numS_lt
  have hw : IntKind.u16.wrap ((numS l 2 s).1 : Int) = ((numS l 2 s).1 : Int) := wrap_u16 (by omega) (by omega)
  simp (disch := first | omega | assumption) only [C.Reader_Index_gos, T.tv, ↓reduceIte, Nat.reduceEqDiff, reduceCtorEq, Nat.reduceLeDiff, Nat.reducePow, Int.reducePow, Int.reduceToNat, Nat.reduceAdd, hw]
  exact ⟨f1, r1⟩
end
end Go.Proofs.Ytohkbpnblkkdgaa

/- The reference's reader of bytes (cut). The decoder of instructions, by the reference: switches. No condition. -/
import Derived.Test.YtflocjbhcjhenaaGreatDoorND5
import Derived.Test.YtflocjbhcjhenaaGreatDoorCA
set_option linter.unusedSimpArgs false
set_option linter.unusedVariables false
namespace Go.Proofs.YtflocjbhcjhenaaGreatDoor
open Go.Vc
set_option maxRecDepth 100000
set_option maxHeartbeats 1000000 in
theorem rnum_any (bs : List UInt8) (h : Heap) (hb : bs.length ≤ 8) : HCalls Tryz.prog 114 #[str bs] h fun v h' => h' = h ∧ v = .int .u64 (numB bs) := by
  refine C.ref1_Num_calls (args := [str bs]) rfl ?_
  simp only [C.ref1_Num_gos, T.tv, seval]
  refine loop_intro [0, 3, 4] (fun m ρ hc => ∃ i : Nat, m = bs.length - i ∧ i ≤ bs.length ∧ ρ = [(0, str bs), (3, .int .u64 (numB (bs.take i))), (4, .int .i64 i)] ∧ hc = h) ?_ ?_
  · simp only [T.tv, seval]
    exact ⟨_, 0, rfl, Nat.zero_le _, by simp [numB]⟩
  · rintro m ρ hc ⟨i, rfl, hi, rfl, rfl⟩
    rcases Nat.lt_or_ge i bs.length with hlt | hge
    · have hlt' : (i : Int) < bs.length := by omega
      have hx := numB_lt (bs.take i)
      have hp : 256 ^ (bs.take i).length ≤ 256 ^ 7 := Nat.pow_le_pow_right (by decide) (by simp; omega)
      have hx2 : numB (bs.take i) < 72057594037927936 := by
        have : (256 : Nat) ^ 7 = 72057594037927936 := by decide
        omega
      have hb8 := UInt8.toNat_lt (bs.getD i 0)
      simp only [Nat.reducePow] at hb8
      have hw1 : IntKind.u64.wrap ((numB (bs.take i) : Int) * 256) = (numB (bs.take i) : Int) * 256 := wrap_u64 (by omega) (by omega)
      have hw2 : IntKind.u64.wrap ((bs.getD i 0).toNat : Int) = ((bs.getD i 0).toNat : Int) := wrap_u64 (by omega) (by omega)
      have hw3 : IntKind.u64.wrap ((numB (bs.take i) : Int) * 256 + ((bs.getD i 0).toNat : Int)) = ((numB (bs.take i) * 256 + (bs.getD i 0).toNat : Nat) : Int) := by rw [wrap_u64 (by omega) (by omega)]; omega
      have hst : numB (bs.take (i + 1)) = numB (bs.take i) * 256 + (bs.getD i 0).toNat := by
        rw [List.take_succ_eq_append_getElem hlt, numB_append]; simp [hlt]
      simp (disch := omega) only [C.ref1_Num_gos, T.tv, seval, hlt', hw1, hw2, hw3]
      exact ⟨bs.length - (i + 1), by omega, i + 1, rfl, by omega, by rw [hst]; rfl⟩
    · have hlt' : ¬ (i : Int) < bs.length := by omega
      have hin : i = bs.length := by omega
      subst hin
      rw [List.take_length]
      simp only [C.ref1_Num_gos, T.tv, seval, hlt']
def Cutr (h : Heap) (g : Nat) (l : List UInt8) (s : RS) : Prop :=
  h[g]? = some (.cells #[str l, .int .i64 s.p, .int .i64 s.e, .int .i64 s.es] 120 (0, 0)) ∧ s.p ≤ l.length
def takeR (l : List UInt8) (n : Nat) (s : RS) : List UInt8 := if (takeS l n s).2.e ≠ 0 then List.replicate n 0 else (takeS l n s).1
theorem numB_zeros (n : Nat) : numB (List.replicate n 0) = 0 := by
  induction n with
  | zero => rfl
  | succ n ih => rw [List.replicate_succ', numB_append, ih]; rfl
theorem takeR_num (l : List UInt8) (n : Nat) (s : RS) : numB (takeR l n s) = (numS l n s).1 := by
  unfold takeR
  split
  · rename_i h
    rw [numB_zeros]
    show 0 = numB (takeS l n s).1
    unfold takeS at h ⊢
    split
    · rfl
    · split
      · rfl
      · rename_i h1 h2
        rw [if_neg h1, if_neg h2] at h
        exact absurd rfl h
  · rfl
theorem takeR_len (l : List UInt8) (n : Nat) (s : RS) : (takeR l n s).length = n := by
  unfold takeR
  split
  · simp
  · rename_i h
    unfold takeS at h ⊢
    split
    · rename_i h1
      rw [if_pos h1] at h
      exact absurd h1 h
    · rename_i h1
      split
      · rename_i h2
        rw [if_neg h1, if_pos h2] at h
        exact absurd (show (1 : Nat) ≠ 0 by decide) h
      · simp; omega
section
variable {h : Heap} {g : Nat} {l : List UInt8} {s : RS}
theorem Cutr.lt (H : Cutr h g l s) : g < h.size := (Array.getElem?_eq_some_iff.1 H.1).1
theorem Cutr.c0 (H : Cutr h g l s) : cellAt h ⟨g, 0, none⟩ = some (str l) := by rw [cellAt_of H.1]; rfl
theorem Cutr.c1 (H : Cutr h g l s) : cellAt h ⟨g, 1, none⟩ = some (.int .i64 (s.p : Int)) := by rw [cellAt_of H.1]; rfl
theorem Cutr.c2 (H : Cutr h g l s) : cellAt h ⟨g, 2, none⟩ = some (.int .i64 (s.e : Int)) := by rw [cellAt_of H.1]; rfl
theorem Cutr.c3 (H : Cutr h g l s) : cellAt h ⟨g, 3, none⟩ = some (.int .i64 (s.es : Int)) := by rw [cellAt_of H.1]; rfl
theorem Cutr.fr {S : Nat → Prop} {h' : Heap} (H : Cutr h g l s) (hf : Fr S h h') (hS : ¬ S g) : Cutr h' g l s := ⟨by rw [hf.same g H.lt hS, H.1], H.2⟩
theorem cfail_any (e q : Nat) (H : Cutr h g l s) : HCalls Tryz.prog 78 #[.pointer (some ⟨g, 0, none⟩), .int .i64 e, .int .i64 q] h fun v h' => Fr (fun k => k = g) h h' ∧ Cutr h' g l (failS e q s) := by
  refine C.cut_fail_calls (args := [.pointer (some ⟨g, 0, none⟩), .int .i64 e, .int .i64 q]) rfl ?_
  have c2 := H.c2
  by_cases he : s.e = 0
  · have he' : (s.e : Int) = 0 := by omega
    simp only [C.cut_fail_gos, T.tv, seval, c2, eq_true he']
    refine eff_store1_z T.zr_31 rfl rfl rfl rfl rfl (u := .int .i64 s.e) c2 ?_ ?_
    · simp [frozenAt, H.1]
    have b1 := setAt_get (o := 2) H.1 (.int .i64 (e : Int))
    simp only [C.cut_fail_gos, T.tv, seval]
    have hc : cellAt (setAt h ⟨g, 2, none⟩ (.int .i64 (e : Int))) ⟨g, 3, none⟩ = some (.int .i64 s.es) := by rw [cellAt_of b1]; rfl
    refine eff_store1_z T.zr_3 rfl rfl rfl rfl rfl (u := .int .i64 s.es) hc ?_ ?_
    · simp [frozenAt, b1]
    have b2 := setAt_get (o := 3) b1 (.int .i64 (q : Int))
    simp only [T.tv]
    refine ⟨Fr.trans (Fr.set (S := fun k => k = g) _ _ _ fun _ => rfl) (Fr.set (S := fun k => k = g) _ _ _ fun _ => rfl) (fun _ _ h => h) (fun _ _ h => h), ?_⟩
    unfold failS
    rw [if_pos he]
    exact ⟨b2, H.2⟩
  · have he' : ¬ (s.e : Int) = 0 := by omega
    simp only [C.cut_fail_gos, T.tv, seval, c2, eq_false he']
    unfold failS
    rw [if_neg he]
    exact ⟨Fr.refl _ _, H⟩
set_option maxHeartbeats 2000000 in
theorem ctake_any (n : Nat) (hl : l.length ≤ 1073741824) (hn : n ≤ 8) (H : Cutr h g l s) : HCalls Tryz.prog 115 #[.pointer (some ⟨g, 0, none⟩), .int .i64 n] h fun v h' => Fr (fun k => k = g) h h' ∧ Cutr h' g l (takeS l n s).2 ∧ v = str (takeR l n s) := by
  refine C.cut_take_calls (args := [.pointer (some ⟨g, 0, none⟩), .int .i64 n]) rfl ?_
  have c0 := H.c0
  have c1 := H.c1
  have c2 := H.c2
  have h2 := H.2
  have hml : n ≤ maxLen := by
    have : maxLen = 9223372036854775807 := by decide +kernel
    omega
  have zeros : ∀ (h1 : Heap) (s1 : RS), Cutr h1 g l s1 → s1.e ≠ 0 → Fr (fun k => k = g) h h1 → ∀ cs : Array Value, ∀ z i, Tryz.prog.info? 5 = some i → i.zero = some z → cs = madeCells z.cells (((n : Nat) : Int).toNat * 1) →
      cs = (bytesV (List.replicate n 0)).toArray := by
    intro h1 s1 _ _ _ cs z i hi hz hcs
    have hz1 : z.cells = #[.int .u8 0] := by
      obtain ⟨ii', z', w1, w2, w3, _⟩ := zr_spec T.zr_5
      rw [hi] at w1; cases w1
      rw [hz] at w2; cases w2
      exact w3
    rw [hcs, hz1, show ((n : Nat) : Int).toNat * 1 = n by omega]
    apply Array.ext
    · simp [madeCells, bytesV]
    · intro i h1 h2
      simp [madeCells, bytesV, Nat.mod_one]
  by_cases he : s.e = 0
  · have he' : (s.e : Int) = 0 := by omega
    by_cases hlt : l.length < s.p + n
    · have q : (l.length : Int) < (s.p : Int) + (n : Int) := by omega
      simp (disch := omega) only [C.cut_take_gos, T.tv, seval, c0, c1, c2, eq_true he', q]
      refine eff_callF rfl ((cfail_any 1 l.length H).mono ?_)
      intro v4 h4 hp4
      have f4 := hp4.1
      have r4 := hp4.2
      clear hp4
      have hs4 : failS 1 l.length s = ⟨s.p, 1, l.length⟩ := by unfold failS; rw [if_pos he]
      rw [hs4] at r4
      have c24 : cellAt h4 ⟨g, 2, none⟩ = some (.int .i64 1) := r4.c2
      have hT : takeS l n s = ([], ⟨s.p, 1, l.length⟩) := by unfold takeS; rw [if_neg (by simp [he]), if_pos hlt]
      have hR : takeR l n s = List.replicate n 0 := by unfold takeR; rw [hT]; rfl
      rw [hT, hR]
      simp only [C.cut_take_gos, T.tv, seval, c24, Int.reduceEq]
      refine eff_make T.slT_136 rfl rfl (by omega) (by omega) (by omega) ?_
      intro cs z i hi hz hcs
      have hcs2 := zeros h4 _ r4 (show (1 : Nat) ≠ 0 by decide) f4 cs z i hi hz hcs
      subst hcs2
      have own : Own (h4.push (.cells (bytesV (List.replicate n 0)).toArray 5)) 0 5 1 (.slice (some ⟨h4.size, 0, none⟩) n n) n (bytesV (List.replicate n 0)) := Own.new (by simp [bytesV]) hml (Nat.zero_le _)
      rw [show ((n : Nat) : Int).toNat = n by omega]
      simp only [T.tv, T.cvo_136_9 own, seval]
      exact ⟨Fr.trans f4 (Ext.push _ _) (fun _ _ h => h) (fun _ _ h => h.elim), r4.fr (Ext.push _ _) id⟩
    · have q : ¬ (l.length : Int) < (s.p : Int) + (n : Int) := by omega
      have hT : takeS l n s = ((l.drop s.p).take n, ⟨s.p + n, 0, s.es⟩) := by unfold takeS; rw [if_neg (by simp [he]), if_neg hlt]
      have hR : takeR l n s = (l.drop s.p).take n := by unfold takeR; rw [hT]; rfl
      rw [hT, hR]
      have e1 : ((s.p : Int) + (n : Int)).toNat = s.p + n := by omega
      simp (disch := omega) only [C.cut_take_gos, T.tv, seval, c0, c1, c2, eq_true he', q]
      refine eff_store1_z T.zr_3 rfl rfl rfl rfl rfl (u := .int .i64 s.p) c1 ?_ ?_
      · simp [frozenAt, H.1]
      have b1 := setAt_get (o := 1) H.1 (.int .i64 ((s.p : Int) + (n : Int)))
      simp only [C.cut_take_gos, T.tv, seval, e1]
      refine ⟨Fr.set (S := fun k => k = g) _ _ _ fun _ => rfl, ⟨?_, by simp only; omega⟩, ?_⟩
      · rw [he] at b1; exact b1
      · rw [List.drop_take, Nat.add_sub_cancel_left]
  · have he' : ¬ (s.e : Int) = 0 := by omega
    have hT : takeS l n s = ([], s) := by unfold takeS; rw [if_pos he]
    have hR : takeR l n s = List.replicate n 0 := by unfold takeR; rw [hT, if_pos he]
    rw [hT, hR]
    simp only [C.cut_take_gos, T.tv, seval, c2, eq_false he']
    refine eff_make T.slT_136 rfl rfl (by omega) (by omega) (by omega) ?_
    intro cs z i hi hz hcs
    have hcs2 := zeros h _ H he (Fr.refl _ _) cs z i hi hz hcs
    subst hcs2
    have own : Own (h.push (.cells (bytesV (List.replicate n 0)).toArray 5)) 0 5 1 (.slice (some ⟨h.size, 0, none⟩) n n) n (bytesV (List.replicate n 0)) := Own.new (by simp [bytesV]) hml (Nat.zero_le _)
    rw [show ((n : Nat) : Int).toNat = n by omega]
    simp only [T.tv, T.cvo_136_9 own, seval]
    exact ⟨Fr.mono (Ext.push _ _) (fun _ _ h => h.elim), H.fr (Ext.push _ _) id⟩
set_option maxHeartbeats 1000000 in
theorem cnum_any (n : Nat) (hl : l.length ≤ 1073741824) (hn : n ≤ 7) (H : Cutr h g l s) : HCalls Tryz.prog 97 #[.pointer (some ⟨g, 0, none⟩), .int .i64 n] h fun v h' => Fr (fun k => k = g) h h' ∧ Cutr h' g l (numS l n s).2 ∧ v = .int .i64 (numS l n s).1 := by
  refine C.cut_num_calls (args := [.pointer (some ⟨g, 0, none⟩), .int .i64 n]) rfl ?_
  simp only [C.cut_num_gos, T.tv, seval]
  refine eff_callF rfl ((ctake_any n hl (by omega) H).mono ?_)
  rintro v1 h1 ⟨f1, r1, rfl⟩
  simp only [T.tv]
  refine eff_callF rfl ((rnum_any (takeR l n s) h1 (by rw [takeR_len]; omega)).mono ?_)
  rintro v2 h2 ⟨rfl, rfl⟩
  rw [takeR_num]
  have hb : (numS l n s).1 < 256 ^ 7 := Nat.lt_of_lt_of_le numS_lt (Nat.pow_le_pow_right (by decide) hn)
  have h7 : (256 : Nat) ^ 7 = 72057594037927936 := by decide
  have hw : IntKind.i64.wrap ((numS l n s).1 : Int) = ((numS l n s).1 : Int) := wrap_i64 (by omega) (by omega)
  simp only [T.tv, hw, seval]
  exact ⟨f1, r1⟩
set_option maxHeartbeats 1000000 in
theorem rsigned_any (bs : List UInt8) (n : Nat) (hb : bs.length = n) (hn : n = 1 ∨ n = 2 ∨ n = 4) (h : Heap) : HCalls Tryz.prog 116 #[str bs] h fun v h' => h' = h ∧ v = .int .i64 (sgnN (numB bs) n) := by
  refine C.ref2_signed_calls (args := [str bs]) rfl ?_
  simp only [C.ref2_signed_gos, T.tv, seval]
  refine eff_callF rfl ((rnum_any bs h (by omega)).mono ?_)
  rintro v2 h2 ⟨rfl, rfl⟩
  have hx := numB_lt bs
  rw [hb] at hx
  have hlen : (bs.length : Int) = (n : Int) := by omega
  generalize numB bs = x at *
  rcases hn with rfl | rfl | rfl
  · have hx : x < 256 := hx
    have hw : IntKind.i64.wrap (x : Int) = (x : Int) := wrap_i64 (by omega) (by omega)
    rw [show ((1 : Nat) : Int) = 1 from rfl] at hlen
    by_cases g : 128 ≤ x
    · have g' : (128 : Int) ≤ x := by omega
      have e : sgnN x 1 = (x : Int) - 256 := by unfold sgnN; rw [if_pos (by simpa using g)]; rfl
      rw [e]
      simp (disch := omega) only [C.ref2_signed_gos, T.tv, seval, hw, hlen, g', Int.reduceMul, Int.reduceSub]
    · have g' : ¬ (128 : Int) ≤ x := by omega
      have e : sgnN x 1 = (x : Int) := by unfold sgnN; rw [if_neg (by simpa using g)]
      rw [e]
      simp (disch := omega) only [C.ref2_signed_gos, T.tv, seval, hw, hlen, g', Int.reduceMul, Int.reduceSub]
  · have hx : x < 65536 := hx
    have hw : IntKind.i64.wrap (x : Int) = (x : Int) := wrap_i64 (by omega) (by omega)
    rw [show ((2 : Nat) : Int) = 2 from rfl] at hlen
    by_cases g : 32768 ≤ x
    · have g' : (32768 : Int) ≤ x := by omega
      have e : sgnN x 2 = (x : Int) - 65536 := by unfold sgnN; rw [if_pos (by simpa using g)]; rfl
      rw [e]
      simp (disch := omega) only [C.ref2_signed_gos, T.tv, seval, hw, hlen, g', Int.reduceMul, Int.reduceSub]
    · have g' : ¬ (32768 : Int) ≤ x := by omega
      have e : sgnN x 2 = (x : Int) := by unfold sgnN; rw [if_neg (by simpa using g)]
      rw [e]
      simp (disch := omega) only [C.ref2_signed_gos, T.tv, seval, hw, hlen, g', Int.reduceMul, Int.reduceSub]
  · have hx : x < 4294967296 := hx
    have hw : IntKind.i64.wrap (x : Int) = (x : Int) := wrap_i64 (by omega) (by omega)
    rw [show ((4 : Nat) : Int) = 4 from rfl] at hlen
    by_cases g : 2147483648 ≤ x
    · have g' : (2147483648 : Int) ≤ x := by omega
      have e : sgnN x 4 = (x : Int) - 4294967296 := by unfold sgnN; rw [if_pos (by simpa using g)]; rfl
      rw [e]
      simp (disch := omega) only [C.ref2_signed_gos, T.tv, seval, hw, hlen, g', Int.reduceMul, Int.reduceSub]
    · have g' : ¬ (2147483648 : Int) ≤ x := by omega
      have e : sgnN x 4 = (x : Int) := by unfold sgnN; rw [if_neg (by simpa using g)]
      rw [e]
      simp (disch := omega) only [C.ref2_signed_gos, T.tv, seval, hw, hlen, g', Int.reduceMul, Int.reduceSub]
set_option maxHeartbeats 1000000 in
theorem csgn_any (n : Nat) (hn : n = 1 ∨ n = 2 ∨ n = 4) (hl : l.length ≤ 1073741824) (H : Cutr h g l s) : HCalls Tryz.prog 99 #[.pointer (some ⟨g, 0, none⟩), .int .i64 n] h fun v h' => Fr (fun k => k = g) h h' ∧ Cutr h' g l (sgnD l n s).2 ∧ v = .int .i64 (sgnD l n s).1 := by
  refine C.cut_signed_calls (args := [.pointer (some ⟨g, 0, none⟩), .int .i64 n]) rfl ?_
  simp only [C.cut_signed_gos, T.tv, seval]
  refine eff_callF rfl ((ctake_any n hl (by omega) H).mono ?_)
  rintro v1 h1 ⟨f1, r1, rfl⟩
  simp only [T.tv]
  refine eff_callF rfl ((rsigned_any (takeR l n s) n (takeR_len l n s) hn h1).mono ?_)
  rintro v2 h2 ⟨rfl, rfl⟩
  rw [takeR_num]
  simp only [T.tv, seval]
  first | exact ⟨f1, r1, rfl⟩ | exact ⟨f1, r1⟩
end
end Go.Proofs.YtflocjbhcjhenaaGreatDoor
namespace Go.Proofs.YtflocjbhcjhenaaGreatDoor
open Go.Vc
set_option maxRecDepth 100000
structure CS (h h' : Heap) (g q : Nat) (l : List UInt8) (x : In) (s : RS) : Prop where
  fr : Fr (fun k => k = g ∨ k = q) h h'
  rd : Cutr h' g l s
  xr : XR h' h.size q x
section
variable {h h1 h2 : Heap} {g q : Nat} {l : List UInt8} {x : In} {s s' : RS}
theorem CS.gq (H : CS h h1 g q l x s) : q ≠ g := by
  obtain ⟨vk, vt, k1, _⟩ := H.xr
  intro e; subst e; exact absurd (blk_ty k1 H.rd.1) (by decide)
theorem CS.step (H : CS h h1 g q l x s) (f : Fr (fun k => k = g) h1 h2) (r : Cutr h2 g l s') : CS h h2 g q l x s' := by
  refine ⟨Fr.trans H.fr f (fun _ _ h => h) (fun _ _ h => Or.inl h), r, H.xr.fr f H.gq ?_⟩
  intro k hk hs
  subst hs
  exact ⟨_, _, _, H.rd.1, by decide⟩
theorem CS.cells (H : CS h h1 g q l x s) : cellAt h1 ⟨q, 0, none⟩ = some (.int .i64 x.at') ∧ cellAt h1 ⟨q, 1, none⟩ = some (.int .u8 (x.op : Int)) ∧ cellAt h1 ⟨q, 2, none⟩ = some (.bool x.wide) ∧ cellAt h1 ⟨q, 3, none⟩ = some (.int .i64 x.A) ∧ cellAt h1 ⟨q, 4, none⟩ = some (.int .i64 x.B) ∧ cellAt h1 ⟨q, 5, none⟩ = some (.int .i64 x.low) ∧ cellAt h1 ⟨g, 1, none⟩ = some (.int .i64 (s.p : Int)) ∧ cellAt h1 ⟨g, 2, none⟩ = some (.int .i64 (s.e : Int)) := by
  obtain ⟨vk, vt, k1, _⟩ := H.xr
  exact ⟨by rw [cellAt_of k1]; rfl, by rw [cellAt_of k1]; rfl, by rw [cellAt_of k1]; rfl, by rw [cellAt_of k1]; rfl, by rw [cellAt_of k1]; rfl, by rw [cellAt_of k1]; rfl, H.rd.c1, H.rd.c2⟩
theorem CS.set (H : CS h h1 g q l x s) (o : Nat) (v : Value) (x' : In) (hk : x'.keys = x.keys) (ht : x'.tgts = x.tgts) (hv : ∀ vk vt, (InV x vk vt).toArray.setIfInBounds o v = (InV x' vk vt).toArray) :
    CS h (setAt h1 ⟨q, o, none⟩ v) g q l x' s := by
  obtain ⟨vk, vt, k1, k2, k3, k4⟩ := H.xr
  have f : Fr (fun k => k = q) h1 (setAt h1 ⟨q, o, none⟩ v) := Fr.set (S := fun k => k = q) _ _ _ fun _ => rfl
  have b1 := setAt_get (o := o) k1 v
  rw [hv] at b1
  refine ⟨Fr.trans H.fr f (fun _ _ h => h) (fun _ _ h => Or.inr h), H.rd.fr f (Ne.symm H.gq), ⟨vk, vt, b1, ?_, ?_, k4⟩⟩
  · rw [hk]; exact k2.fr f fun k hk hS => by subst hS; exact Own_ne k2 k1 (by decide) hk
  · rw [ht]; exact k3.fr f fun k hk hS => by subst hS; exact Own_ne k3 k1 (by decide) hk
theorem CS.notfz (H : CS h h1 g q l x s) (o : Nat) : frozenAt h1 ⟨q, o, none⟩ = false := by
  obtain ⟨vk, vt, k1, _⟩ := H.xr
  simp [frozenAt, k1]
theorem CS.size (H : CS h h1 g q l x s) : h.size ≤ h1.size := H.fr.size
theorem CS.push (H : CS h h1 g q l x s) (o : Obj) : CS h (h1.push o) g q l x s := by
  have E := Ext.push h1 o
  exact ⟨Fr.trans H.fr E (fun _ _ h => h) (fun _ _ h => h.elim), H.rd.fr E id, H.xr.fr E id (fun _ _ h => h.elim)⟩
theorem CS.tg1 (H : CS h h1 g q l x s) (n : Int) :
    CS h (setAt (h1.push (.cells #[.int .i64 n] 3)) ⟨q, 7, none⟩ (.slice (some ⟨h1.size, 0, none⟩) 1 1)) g q l { x with tgts := [n] } s := by
  obtain ⟨vk, vt, k1, k2, k3, k4⟩ := H.xr
  have E := Ext.push h1 (.cells #[.int .i64 n] 3)
  have hs := H.size
  have f : Fr (fun k => k = q) (h1.push (.cells #[.int .i64 n] 3)) (setAt (h1.push (.cells #[.int .i64 n] 3)) ⟨q, 7, none⟩ (.slice (some ⟨h1.size, 0, none⟩) 1 1)) := Fr.set (S := fun k => k = q) _ _ _ fun _ => rfl
  have k1' := push_blk (o' := .cells #[.int .i64 n] 3) k1
  have b1 := setAt_get (o := 7) k1' (.slice (some ⟨h1.size, 0, none⟩) 1 1)
  have own1 : Own (h1.push (.cells #[.int .i64 n] 3)) h.size 3 1 (.slice (some ⟨h1.size, 0, none⟩) 1 1) 1 [.int .i64 n] := Own.new (vs := [.int .i64 n]) rfl (by decide) hs
  refine ⟨Fr.trans (Fr.trans H.fr E (fun _ _ h => h) (fun _ _ h => h.elim)) f (fun _ _ h => h) (fun _ _ h => Or.inr h), (H.rd.fr E id).fr f (Ne.symm H.gq), ⟨vk, _, b1, ?_, ?_, ?_⟩⟩
  · exact (k2.ext E).fr f fun k hk hS => by subst hS; exact Own_ne (k2.ext E) k1' (by decide) hk
  · exact own1.fr f fun k hk hS => by subst hS; exact Own_ne own1 k1' (by decide) hk
  · intro k hk hk2
    simp only [Value.ownBlock, Option.some.injEq] at hk2
    have := (k2.lt k hk).2
    omega
theorem CS.addK (H : CS h h1 g q l x s) {vk vt v2 : Value} {n : Int} (hq : h1[q]? = some (.cells (InV x vk vt).toArray 98 (0, 0))) (ownk : Own h1 h.size 3 1 vk x.keys.length (intsV x.keys)) (ownt : Own h1 h.size 3 1 vt x.tgts.length (intsV x.tgts))
    (disj : ∀ k, vk.ownBlock = some k → ¬ vt.ownBlock = some k) (own2 : Own h2 h.size 3 1 v2 (x.keys.length + 1) (intsV x.keys ++ [.int .i64 n])) (f : Fr (fun k => vk.ownBlock = some k) h1 h2) (fresh : ∀ k, v2.ownBlock = some k → vk.ownBlock = some k ∨ h1.size ≤ k) :
    CS h (setAt h2 ⟨q, 6, none⟩ v2) g q l { x with keys := x.keys ++ [n] } s := by
  have hne : ∀ k cs t fz, h1[k]? = some (.cells cs t fz) → t ≠ 3 → ¬ vk.ownBlock = some k := fun k cs t fz hb ht => Own_ne ownk hb (Ne.symm ht)
  have q2 := Fr_blk f hq (hne _ _ _ _ hq (by decide))
  have r2 : Cutr h2 g l s := H.rd.fr f (hne _ _ _ _ H.rd.1 (by decide))
  have f2 : Fr (fun k => k = q) h2 (setAt h2 ⟨q, 6, none⟩ v2) := Fr.set (S := fun k => k = q) _ _ _ fun _ => rfl
  have b1 := setAt_get (o := 6) q2 v2
  have ot2 := ownt.fr f fun k hk hk2 => disj k hk2 hk
  refine ⟨Fr.trans (Fr.trans H.fr f (fun _ _ h => h) (fun k hk h => by have := (ownk.lt k h).1; omega)) f2 (fun _ _ h => h) (fun _ _ h => Or.inr h), r2.fr f2 (Ne.symm H.gq), ⟨v2, vt, b1, ?_, ?_, ?_⟩⟩
  · refine Own_cast (own2.fr f2 fun k hk hS => ?_) (by simp) (by simp [intsV])
    subst hS; exact Own_ne own2 q2 (by decide) hk
  · exact ot2.fr f2 fun k hk hS => by subst hS; exact Own_ne ot2 q2 (by decide) hk
  · intro k hk hk2
    rcases fresh k hk with hh | hh
    · exact disj k hh hk2
    · have := (ownt.lt k hk2).2; omega
theorem CS.addT (H : CS h h1 g q l x s) {vk vt v2 : Value} {n : Int} (hq : h1[q]? = some (.cells (InV x vk vt).toArray 98 (0, 0))) (ownk : Own h1 h.size 3 1 vk x.keys.length (intsV x.keys)) (ownt : Own h1 h.size 3 1 vt x.tgts.length (intsV x.tgts))
    (disj : ∀ k, vk.ownBlock = some k → ¬ vt.ownBlock = some k) (own2 : Own h2 h.size 3 1 v2 (x.tgts.length + 1) (intsV x.tgts ++ [.int .i64 n])) (f : Fr (fun k => vt.ownBlock = some k) h1 h2) (fresh : ∀ k, v2.ownBlock = some k → vt.ownBlock = some k ∨ h1.size ≤ k) :
    CS h (setAt h2 ⟨q, 7, none⟩ v2) g q l { x with tgts := x.tgts ++ [n] } s := by
  have hne : ∀ k cs t fz, h1[k]? = some (.cells cs t fz) → t ≠ 3 → ¬ vt.ownBlock = some k := fun k cs t fz hb ht => Own_ne ownt hb (Ne.symm ht)
  have q2 := Fr_blk f hq (hne _ _ _ _ hq (by decide))
  have r2 : Cutr h2 g l s := H.rd.fr f (hne _ _ _ _ H.rd.1 (by decide))
  have f2 : Fr (fun k => k = q) h2 (setAt h2 ⟨q, 7, none⟩ v2) := Fr.set (S := fun k => k = q) _ _ _ fun _ => rfl
  have b1 := setAt_get (o := 7) q2 v2
  have ok2 := ownk.fr f fun k hk hk2 => disj k hk hk2
  refine ⟨Fr.trans (Fr.trans H.fr f (fun _ _ h => h) (fun k hk h => by have := (ownt.lt k h).1; omega)) f2 (fun _ _ h => h) (fun _ _ h => Or.inr h), r2.fr f2 (Ne.symm H.gq), ⟨vk, v2, b1, ?_, ?_, ?_⟩⟩
  · exact ok2.fr f2 fun k hk hS => by subst hS; exact Own_ne ok2 q2 (by decide) hk
  · refine Own_cast (own2.fr f2 fun k hk hS => ?_) (by simp) (by simp [intsV])
    subst hS; exact Own_ne own2 q2 (by decide) hk
  · intro k hk hk2
    rcases fresh k hk2 with hh | hh
    · exact disj k hk hh
    · have := (ownk.lt k hk).2; omega
end
section
variable {h : Heap} {g q : Nat} {l : List UInt8} {s : RS}
theorem failS_idem (e1 e2 q1 q2 : Nat) (s : RS) (h1 : e1 ≠ 0) : failS e2 q2 (failS e1 q1 s) = failS e1 q1 s := by
  unfold failS
  by_cases h : s.e = 0
  · rw [if_pos h, if_neg h1]
  · rw [if_neg h, if_neg h]
theorem failS_ne (e1 q1 : Nat) (s : RS) (h1 : e1 ≠ 0) : (failS e1 q1 s).e ≠ 0 := by
  unfold failS
  split
  · exact h1
  · assumption
set_option maxHeartbeats 8000000 in
theorem rcho_any' (x : In) (a f : Nat) (hf : f = 10 ∨ f = 11) (hl : l.length ≤ 1073741824) (ha : x.at' = (a : Int)) (hal : a ≤ l.length) (hk : x.keys = []) (ht : x.tgts = [])
    (H : Cutr h g l s) (hq : h[q]? = some (.cells (InV x (.slice none 0 0) (.slice none 0 0)).toArray 98 (0, 0))) :
    HCalls Tryz.prog 100 #[.pointer (some ⟨g, 0, none⟩), .pointer (some ⟨q, 0, none⟩), .bool (decide (f = 11))] h fun _ h' =>
      Fr (fun k => k = g ∨ k = q) h h' ∧ Cutr h' g l (choD x a f l s).2 ∧ XR h' h.size q (choD x a f l s).1 := by
  refine C.cut_choice_calls (args := [.pointer (some ⟨g, 0, none⟩), .pointer (some ⟨q, 0, none⟩), .bool (decide (f = 11))]) rfl ?_
  generalize hY : choD x a f l s = Y
  have D0 : CS h h g q l x s := ⟨Fr.refl _ _, H, ⟨_, _, hq, by rw [hk]; exact Own.nil, by rw [ht]; exact Own.nil, by intro k hk; simp [Value.ownBlock] at hk⟩⟩
  simp only [C.cut_choice_gos, T.tv]
  refine loop_intro [0, 1, 2] (fun m ρ hc => ∃ (k : Nat) (s' : RS), m = k ∧ ρ = [(0, .pointer (some ⟨g, 0, none⟩)), (1, .pointer (some ⟨q, 0, none⟩)), (2, .bool (decide (f = 11)))] ∧ CS h hc g q l x s' ∧ padD l a k s' = padD l a 4 s ∧ (s'.e ≠ 0 ∨ (4 - s'.p % 4) % 4 ≤ k)) ?_ ?_
  · simp only [T.tv, seval]
    exact ⟨_, 4, s, rfl, D0, rfl, by omega⟩
  rintro m ρ hc ⟨k, s1, rfl, rfl, D1, hpad, hkk⟩
  have fx1 := D1.cells
  rw [ha] at fx1
  have hdone : s1.p % 4 = 0 ∨ s1.e ≠ 0 → padD l a 4 s = s1 := fun hd => by rw [← hpad, padD_done hd]
  by_cases hmore : s1.p % 4 = 0 ∨ s1.e ≠ 0
  case neg =>
    have hm4 : ¬ (s1.p : Int) % 4 = 0 := by omega
    have he0 : s1.e = 0 := by omega
    have he0' : (s1.e : Int) = 0 := by omega
    simp (disch := omega) only [C.cut_choice_gos, T.tv, seval, fx1, eq_false hm4, eq_true he0']
    refine eff_callF rfl ((cnum_any 1 hl (by omega) D1.rd).mono ?_)
    intro v4 h4 hp4
    have D4 := D1.step hp4.1 hp4.2.1
    have hv4 := hp4.2.2
    clear hp4
    have fx4 := D4.cells
    rw [ha] at fx4
    obtain ⟨k', rfl⟩ : ∃ k', m = k' + 1 := ⟨m - 1, by omega⟩
    rw [padD, if_neg hmore] at hpad
    have hsuc := num_step l s1
    by_cases hz : (numS l 1 s1).1 = 0
    · have hz' : (((numS l 1 s1).1 : Nat) : Int) = 0 := by omega
      rw [if_neg (by simp [hz])] at hpad
      simp only [T.tv, hv4, seval, eq_true hz']
      refine ⟨_, Nat.lt_succ_self _, k', _, rfl, D4, hpad, ?_⟩
      by_cases hlt : s1.p < l.length
      · have := (hsuc hlt he0).1
        omega
      · left
        unfold numS takeS
        rw [if_neg (by omega), if_pos (by omega)]
        exact (show (1 : Nat) ≠ 0 by decide)
    · have hz' : ¬ (((numS l 1 s1).1 : Nat) : Int) = 0 := by omega
      rw [if_pos (by simpa using hz)] at hpad
      simp only [C.cut_choice_gos, T.tv, seval, hv4, eq_false hz', fx4]
      refine eff_callF rfl ((cfail_any 15 a D4.rd).mono ?_)
      intro v5 h5 hp5
      have D5 := D4.step hp5.1 hp5.2
      clear hp5
      simp only [T.tv, seval]
      refine ⟨_, Nat.lt_succ_self _, k', _, rfl, D5, hpad, Or.inl ?_⟩
      exact failS_ne 15 a _ (by decide)
  have hs1 := hdone hmore
  clear hdone hpad hkk
  unfold choD at hY
  rw [hs1] at hY
  clear hs1
  simp only at hY
  by_cases hm4 : s1.p % 4 = 0
  case' pos =>
    have hm4' : (s1.p : Int) % 4 = 0 := by omega
    simp (disch := omega) only [C.cut_choice_gos, T.tv, seval, fx1, eq_true hm4']
  case' neg =>
    have hm4' : ¬ (s1.p : Int) % 4 = 0 := by omega
    have he1 : ¬ (s1.e : Int) = 0 := by omega
    simp (disch := omega) only [C.cut_choice_gos, T.tv, seval, fx1, eq_false hm4', eq_false he1]
  all_goals
    refine eff_callF rfl ((csgn_any 4 (by omega) hl D1.rd).mono ?_)
    intro v4 h4 hp4
    have D4 := D1.step hp4.1 hp4.2.1
    have hv4 := hp4.2.2
    clear hp4
    have fx4 := D4.cells
    rw [ha] at fx4
    have b4 := sgnD_fit l 4 s1 (by omega)
    generalize hT : sgnD l 4 s1 = T at *
    obtain ⟨t0, s4⟩ := T
    simp only at hv4 hY b4 D4 fx4
    simp (disch := omega) only [T.tv, hv4, seval, fx4]
    refine eff_lits T.slT_96 rfl rfl (by decide) ?_
    simp only [T.tv, seval]
    obtain ⟨vk4, vt4, q4, own4k, own4t, _⟩ := D4.xr
    refine eff_store1_z T.zr_96 rfl rfl rfl rfl rfl (by rw [cellAt_of (push_blk q4)]; rfl) ((D4.push _).notfz 7) ?_
    have D6 := D4.tg1 ((a : Int) + t0)
    generalize setAt (h4.push (.cells #[.int .i64 ((a : Int) + t0)] 3)) ⟨q, 7, none⟩ (.slice (some ⟨h4.size, 0, none⟩) 1 1) = h6 at *
    have fx6 := D6.cells
    rw [ha] at fx6
    clear fx4 q4 own4k own4t
    simp only [C.cut_choice_gos, T.tv, seval]
    refine eff_callF rfl ((csgn_any 4 (by omega) hl D6.rd).mono ?_)
    intro v7 h7 hp7
    have D7 := D6.step hp7.1 hp7.2.1
    have hv7 := hp7.2.2
    clear hp7
    have b7 := sgnD_fit l 4 s4 (by omega)
    generalize hT7 : sgnD l 4 s4 = T7 at *
    obtain ⟨n, s7⟩ := T7
    simp only at hv7 hY b7 D7
    have fx7 := D7.cells
    rw [ha] at fx7
    -- the rows
    have rows : ∀ (x2 : In) (cnt : Nat) (s9 : RS) (h9 : Heap), x2.at' = (a : Int) → x2.keys = [] → x2.tgts = [(a : Int) + t0] → cnt ≤ 8589934592 → CS h h9 g q l x2 s9 →
        ({ x2 with keys := (rowsD f l a cnt ([], [(a : Int) + t0], s9)).1, tgts := (rowsD f l a cnt ([], [(a : Int) + t0], s9)).2.1 }, (rowsD f l a cnt ([], [(a : Int) + t0], s9)).2.2) = Y →
        ∀ ρ0 : Env, Env.keep [0, 1, 2, 6, 7] ρ0 = [(0, .pointer (some ⟨g, 0, none⟩)), (1, .pointer (some ⟨q, 0, none⟩)), (2, .bool (decide (f = 11))), (6, .int .i64 cnt), (7, .int .i64 0)] →
        Cd.vc Tryz.prog (.loop C.cut_choice_l1) (Ex.inb 2 (retQ Tryz.prog [] fun _ h' => Fr (fun k => k = g ∨ k = q) h h' ∧ Cutr h' g l Y.2 ∧ XR h' h.size q Y.1)) ρ0 h9 := by
      intro x2 cnt s9 h9 ha2 hk2 ht2 hcl D9 hY2 ρ0 hρ
      have hf2 : f = 10 ∨ f = 11 := hf
      clear hY D7 D6 D4 D1 D0 fx7 fx6 fx1 hv7 hv4 hT hT7 b7 b4
      generalize hX : rowsD f l a cnt ([], [(a : Int) + t0], s9) = X at *
      refine loop_intro [0, 1, 2, 6, 7] (fun m ρ hc => ∃ (i r : Nat) (c : KT), m = r ∧ i + r = cnt ∧ (f = 11 → c.1.length = i) ∧ c.1.length ≤ i ∧ c.2.1.length = i + 1 ∧ ρ = [(0, .pointer (some ⟨g, 0, none⟩)), (1, .pointer (some ⟨q, 0, none⟩)), (2, .bool (decide (f = 11))), (6, .int .i64 cnt), (7, .int .i64 i)] ∧
        CS h hc g q l { x2 with keys := c.1, tgts := c.2.1 } c.2.2 ∧ rowsD f l a r c = X ∧ (c.2.2.e = 0 → 4 * i + s9.p ≤ c.2.2.p)) ?_ ?_
      · rw [hρ]
        refine ⟨_, 0, cnt, ([], [(a : Int) + t0], s9), rfl, by omega, fun _ => rfl, Nat.le_refl _, rfl, rfl, ?_, hX, fun _ => by simp⟩
        have e2 : ({ x2 with keys := [], tgts := [(a : Int) + t0] } : In) = x2 := by cases x2; simp_all
        show CS h h9 g q l { x2 with keys := [], tgts := [(a : Int) + t0] } s9
        rw [e2]; exact D9
      clear D9 hX hρ
      rintro m ρ hc ⟨i, r, ⟨ks, ts, s1⟩, rfl, hir, hki, hkl, htl, rfl, D1, hR, hpp⟩
      simp only at hki hkl htl D1 hR hpp
      have fx1 := D1.cells
      simp only [ha2] at fx1
      have hend : X = (ks, ts, s1) → Fr (fun k => k = g ∨ k = q) h hc ∧ Cutr hc g l Y.2 ∧ XR hc h.size q Y.1 := by
        intro hX
        rw [← hY2, hX]
        exact ⟨D1.fr, D1.rd, D1.xr⟩
      cases m with
      | zero =>
        have hlt : ¬ (i : Int) < cnt := by omega
        have he := hend hR.symm
        simp only [C.cut_choice_gos, T.tv, seval, hlt]
        exact he
      | succ r =>
        have hlt : (i : Int) < cnt := by omega
        by_cases hbad : s1.e ≠ 0
        · rw [rowsD_bad (by simpa using hbad)] at hR
          have he := hend hR.symm
          have hb' : ¬ (s1.e : Int) = 0 := by omega
          simp only [C.cut_choice_gos, T.tv, seval, hlt, fx1, eq_false hb']
          exact he
        have he0 : s1.e = 0 := by omega
        have he0' : (s1.e : Int) = 0 := by omega
        rw [rowsD, if_neg (by simpa using hbad)] at hR
        simp only at hR
        have hib : i ≤ 1073741824 := by
          have h1 := hpp he0
          have h2 := D1.rd.2
          omega
        rcases hf2 with rfl | rfl
        case' inl =>
          have hkd : keyD 10 l a ks s1 = (ks, s1) := rfl
          rw [hkd] at hR
          simp only at hR
          have hkl2 : ks.length ≤ i + 1 := by omega
          have hki2 : 10 = 11 → ks.length = i + 1 := by omega
          have hpp2 : s1.e = 0 → 4 * i + s9.p ≤ s1.p := hpp
          have D5 := D1
          obtain ⟨vk5, vt5, q5, own5k, own5t, dj5⟩ := id D5.xr
          have c7 := cellAt_of (j := 7) q5
          simp only [InV, List.getElem?_toArray, List.getElem?_cons_zero, List.getElem?_cons_succ] at c7
          simp only [C.cut_choice_gos, T.tv, seval, hlt, fx1, eq_true he0', c7]
          obtain ⟨ks2, hks2⟩ : ∃ y, y = ks := ⟨_, rfl⟩
          rw [← hks2] at hR hkl2 hki2 D5 own5k q5
          obtain ⟨s2, hs2⟩ : ∃ y, y = s1 := ⟨_, rfl⟩
          rw [← hs2] at hR hpp2 D5
          clear hs2 hks2 D1
        case' inr =>
          have hki' := hki rfl
          obtain ⟨vk1, vt1, q1, own1k, own1t, dj1⟩ := id D1.xr
          have c61 := cellAt_of (j := 6) q1
          simp only [InV, List.getElem?_toArray, List.getElem?_cons_zero, List.getElem?_cons_succ] at c61
          simp only [C.cut_choice_gos, T.tv, seval, hlt, fx1, eq_true he0', c61]
          refine eff_callF rfl ((csgn_any 4 (by omega) hl D1.rd).mono ?_)
          intro v4 h4 hp4
          have D4 := D1.step hp4.1 hp4.2.1
          have hv4 := hp4.2.2
          have f4 := hp4.1
          clear hp4
          have q4 := Fr_blk f4 q1 D1.gq
          have own4k := own1k.fr f4 (fun k hk hS => by subst hS; exact Own_ne own1k D1.rd.1 (by decide) hk)
          have own4t := own1t.fr f4 (fun k hk hS => by subst hS; exact Own_ne own1t D1.rd.1 (by decide) hk)
          have hs4 := sgn4_p (l := l) (s := s1)
          have hkd : keyD 11 l a ks s1 = (ks ++ [(sgnD l 4 s1).1], if ks ≠ [] ∧ (sgnD l 4 s1).1 ≤ ks.getD (ks.length - 1) 0 then failS 15 a (sgnD l 4 s1).2 else (sgnD l 4 s1).2) := rfl
          rw [hkd] at hR
          generalize sgnD l 4 s1 = T at *
          obtain ⟨kv, s4⟩ := T
          simp only at hR hv4 D4 hs4 own4k own4t
          have c64 := cellAt_of (j := 6) q4
          simp only [InV, List.getElem?_toArray, List.getElem?_cons_zero, List.getElem?_cons_succ] at c64
          simp only [T.tv, hv4, seval, c64]
          refine eff_lits T.slT_96 rfl rfl (by decide) ?_
          simp only [T.tv, seval]
          refine ⟨by rw [cellAt_of (push_blk q4)]; rfl, ?_⟩
          refine eff_append_ownF (m := 1) T.slT_96 rfl rfl (own4k.push _) rfl (Rd_new (vs := [.int .i64 kv])) (by simp [oneCell]) (by show ks.length + 1 ≤ _; omega) (by show (ks.length + 1) * _ ≤ _; omega) (by have := D4.size; simp; omega) ?_
          intro v6 h6 own6 fr6 _ fresh6
          obtain ⟨a6, c6', rfl, _⟩ := own6.slN.2
          have D4p := D4.push (.cells #[.int .i64 kv] 3)
          have q4p := push_blk (o' := .cells #[.int .i64 kv] 3) q4
          have q6 := Fr_blk fr6 q4p (Own_ne (own4k.push _) q4p (by decide))
          simp only [T.tv, seval]
          refine eff_store1_z T.zr_96 rfl rfl rfl rfl rfl (by rw [cellAt_of q6]; rfl) (by simp [frozenAt, q6]) ?_
          have D7 : CS h _ g q l { x2 with keys := ks ++ [kv], tgts := ts } s4 := D4p.addK q4p (own4k.push _) (own4t.push _) dj1 own6 fr6 fresh6
          generalize setAt h6 ⟨q, 6, none⟩ _ = h7 at *
          have hkl2 : (ks ++ [kv]).length ≤ i + 1 := by simp; omega
          have hki2 : 11 = 11 → (ks ++ [kv]).length = i + 1 := fun _ => by simp; omega
          clear D4p q4p q6 own6 fr6 fresh6 q4 own4k own4t dj1 c64 c61 q1 own1k own1t
          by_cases hi0 : i = 0
          case' pos =>
            have hks : ks = [] := List.eq_nil_of_length_eq_zero (by omega)
            have hi0' : ¬ (0 : Int) < (i : Int) := by omega
            rw [if_neg (by simp [hks])] at hR
            obtain ⟨s2, hs2⟩ : ∃ y, y = s4 := ⟨_, rfl⟩
            have hpp2 : s2.e = 0 → 4 * i + s9.p ≤ s2.p := by
              rw [hs2]; intro h0
              have := hs4 h0
              have := hpp he0
              omega
            have D5 := D7
            rw [← hs2] at D5 hR
            obtain ⟨vk5, vt5, q5, own5k, own5t, dj5⟩ := id D5.xr
            have c7 := cellAt_of (j := 7) q5
            simp only [InV, List.getElem?_toArray, List.getElem?_cons_zero, List.getElem?_cons_succ] at c7
            have fx5 := D5.cells
            simp only [ha2] at fx5
            simp only [C.cut_choice_gos, T.tv, seval, hi0', fx5, c7]
          case' neg =>
            have hi0' : (0 : Int) < (i : Int) := by omega
            have hks : ks ≠ [] := by intro hh; rw [hh] at hki'; simp at hki'; omega
            have e1 : (i : Int) - 1 = ((i - 1 : Nat) : Int) := by omega
            obtain ⟨vk7, vt7, q7, own7k, own7t, dj7⟩ := id D7.xr
            have c67 := cellAt_of (j := 6) q7
            simp only [InV, List.getElem?_toArray, List.getElem?_cons_zero, List.getElem?_cons_succ] at c67
            simp only at own7k
            have hkn : (ks ++ [kv]).length = i + 1 := hki2 rfl
            obtain ⟨kb, ko, kc, hes, hrk, _⟩ := own7k.slN.at (i := i - 1) (by omega)
            subst hes
            obtain ⟨_, _, _, hes2, hrk2, _⟩ := own7k.slN.at (i := i) (by omega)
            cases hes2
            have k0 : cellAt h7 ⟨kb, ko + (i - 1), none⟩ = some (.int .i64 (ks.getD (i - 1) 0)) := by
              have := hrk 0 (.int .i64 (ks.getD (i - 1) 0)) (by
                have h1 : i - 1 < ks.length := by omega
                have h2 : (intsV (ks ++ [kv])) = intsV ks ++ [.int .i64 kv] := by simp [intsV]
                rw [h2, Nat.mul_one, List.getElem?_take, if_pos (by decide), List.getElem?_drop, Nat.add_zero, List.getElem?_append_left (by simpa [intsV] using h1)]
                simp [intsV, h1])
              simpa using this
            have k1 : cellAt h7 ⟨kb, ko + i, none⟩ = some (.int .i64 kv) := by
              have := hrk2 0 (.int .i64 kv) (by
                rw [← hki']
                simp [intsV])
              simpa using this
            have hib1 : ((i - 1 : Nat) : Int) < ((ks ++ [kv]).length : Int) := by omega
            have hib2 : (i : Int) < ((ks ++ [kv]).length : Int) := by omega
            rw [show ks.length - 1 = i - 1 by omega] at hR
            by_cases hle : kv ≤ ks.getD (i - 1) 0
            case' pos =>
              rw [if_pos ⟨hks, hle⟩] at hR
              have fx7 := D7.cells
              simp only [ha2] at fx7
              simp (disch := omega) only [C.cut_choice_gos, T.tv, seval, fx7, c67, hi0', e1, k0, k1, hle]
              refine eff_callF rfl ((cfail_any 15 a D7.rd).mono ?_)
              intro v8 h8 hp8
              have D5 := D7.step hp8.1 hp8.2
              clear hp8
              obtain ⟨s2, hs2⟩ : ∃ y, y = failS 15 a s4 := ⟨_, rfl⟩
              have hpp2 : s2.e = 0 → 4 * i + s9.p ≤ s2.p := by
                rw [hs2]; intro h0
                exact absurd h0 (failS_ne 15 a s4 (by decide))
              rw [← hs2] at D5 hR
              obtain ⟨vk5, vt5, q5, own5k, own5t, dj5⟩ := id D5.xr
              have c7 := cellAt_of (j := 7) q5
              simp only [InV, List.getElem?_toArray, List.getElem?_cons_zero, List.getElem?_cons_succ] at c7
              have fx5 := D5.cells
              simp only [ha2] at fx5
              simp only [C.cut_choice_gos, T.tv, seval, fx5, c7]
            case' neg =>
              rw [if_neg (fun hh => hle hh.2)] at hR
              obtain ⟨s2, hs2⟩ : ∃ y, y = s4 := ⟨_, rfl⟩
              have hpp2 : s2.e = 0 → 4 * i + s9.p ≤ s2.p := by
                rw [hs2]; intro h0
                have := hs4 h0
                have := hpp he0
                omega
              have D5 := D7
              rw [← hs2] at D5 hR
              have q5 := q7
              have own5k := own7k
              have own5t := own7t
              have dj5 := dj7
              have c7 := cellAt_of (j := 7) q5
              simp only [InV, List.getElem?_toArray, List.getElem?_cons_zero, List.getElem?_cons_succ] at c7
              have fx5 := D5.cells
              simp only [ha2] at fx5
              simp (disch := omega) only [C.cut_choice_gos, T.tv, seval, fx5, c67, c7, hi0', e1, k0, k1, hle]
          all_goals
            obtain ⟨ks2, hks2⟩ : ∃ y, y = ks ++ [kv] := ⟨_, rfl⟩
            rw [← hks2] at hR hkl2 hki2 D5 own5k q5
        all_goals
          refine eff_callF rfl ((csgn_any 4 (by omega) hl D5.rd).mono ?_)
          intro v8 h8 hp8
          have D8 := D5.step hp8.1 hp8.2.1
          have hv8 := hp8.2.2
          have f8 := hp8.1
          clear hp8
          have q8 := Fr_blk f8 q5 D5.gq
          have own8k := own5k.fr f8 (fun k hk hS => by subst hS; exact Own_ne own5k D5.rd.1 (by decide) hk)
          have own8t := own5t.fr f8 (fun k hk hS => by subst hS; exact Own_ne own5t D5.rd.1 (by decide) hk)
          have b8 := sgnD_fit l 4 s2 (by omega)
          have hs8 := sgn4_p (l := l) (s := s2)
          generalize sgnD l 4 s2 = T8 at *
          obtain ⟨tv, s8⟩ := T8
          simp only at hR hv8 D8 hs8 b8 own8k own8t
          have c78 := cellAt_of (j := 7) q8
          simp only [InV, List.getElem?_toArray, List.getElem?_cons_zero, List.getElem?_cons_succ] at c78
          have fx8 := D8.cells
          simp only [ha2] at fx8
          simp (disch := omega) only [T.tv, hv8, seval, fx8, c78]
          refine eff_lits T.slT_96 rfl rfl (by decide) ?_
          simp only [T.tv, seval]
          refine ⟨by rw [cellAt_of (push_blk q8)]; rfl, ?_⟩
          refine eff_append_ownF (m := 1) T.slT_96 rfl rfl (own8t.push _) rfl (Rd_new (vs := [.int .i64 ((a : Int) + tv)])) (by simp [oneCell]) (by omega) (by omega) (by have := D8.size; simp; omega) ?_
          intro v9 h9' own9 fr9 _ fresh9
          obtain ⟨a9, c9, rfl, _⟩ := own9.slN.2
          have D8p := D8.push (.cells #[.int .i64 ((a : Int) + tv)] 3)
          have q8p := push_blk (o' := .cells #[.int .i64 ((a : Int) + tv)] 3) q8
          have q9 := Fr_blk fr9 q8p (Own_ne (own8t.push _) q8p (by decide))
          simp only [T.tv, seval]
          refine eff_store1_z T.zr_96 rfl rfl rfl rfl rfl (by rw [cellAt_of q9]; rfl) (by simp [frozenAt, q9]) ?_
          have D10 : CS h _ g q l { x2 with keys := ks2, tgts := ts ++ [(a : Int) + tv] } s8 := D8p.addT q8p (own8k.push _) (own8t.push _) dj5 own9 fr9 fresh9
          generalize setAt h9' ⟨q, 7, none⟩ _ = h10 at *
          simp (disch := omega) only [C.cut_choice_gos, T.tv, seval]
          have hfin : s8.e = 0 → 4 * (i + 1) + s9.p ≤ s8.p := by
            intro h0
            have h8 := hs8 h0
            have h9 := hpp2 h8.1
            omega
          first
            | exact ⟨_, Nat.lt_succ_self _, i + 1, r, (ks2, ts ++ [(a : Int) + tv], s8), rfl, by omega, hki2 rfl, hkl2, by simp [htl], by simp, D10, hR, hfin⟩
            | exact ⟨_, Nat.lt_succ_self _, i + 1, r, (ks2, ts ++ [(a : Int) + tv], s8), rfl, by omega, hkl2, by simp [htl], by simp, D10, hR, hfin⟩
    rcases hf with rfl | rfl
    · rw [if_pos rfl] at hY
      simp only [Nat.reduceEqDiff, decide_false] at rows
      simp only [C.cut_choice_gos, T.tv, seval, hv7]
      refine eff_store1_z T.zr_3 rfl rfl rfl rfl rfl fx7.2.2.2.2.2.1 (D7.notfz 5) ?_
      have D8 := D7.set 5 (.int .i64 n) { x with tgts := [(a : Int) + t0], low := n } rfl rfl (fun _ _ => rfl)
      generalize setAt h7 ⟨q, 5, none⟩ (.int .i64 n) = h8 at *
      have fx8 := D8.cells
      rw [ha] at fx8
      simp only [C.cut_choice_gos, T.tv, seval]
      refine eff_callF rfl ((csgn_any 4 (by omega) hl D8.rd).mono ?_)
      intro v9 h9 hp9
      have D9 := D8.step hp9.1 hp9.2.1
      have hv9 := hp9.2.2
      clear hp9
      have b9 := sgnD_fit l 4 s7 (by omega)
      generalize hT9 : sgnD l 4 s7 = T9 at *
      obtain ⟨hi, s9⟩ := T9
      simp only at hv9 hY b9 D9
      have fx9 := D9.cells
      rw [ha] at fx9
      by_cases hlow : hi < n
      · rw [if_pos hlow] at hY
        subst hY
        have g1 : hi - n + 1 < 1 := by omega
        simp (disch := omega) only [C.cut_choice_gos, T.tv, seval, hv9, fx9, g1]
        refine eff_callF rfl ((cfail_any 15 a D9.rd).mono ?_)
        intro v10 h10 hp10
        have D10 := D9.step hp10.1 hp10.2
        clear hp10
        have fx10 := D10.cells
        rw [ha] at fx10
        by_cases g2 : hi - n + 1 < 0
        case' pos =>
          simp only [C.cut_choice_gos, T.tv, seval, fx10, g2]
          refine eff_callF rfl ((cfail_any 15 a D10.rd).mono ?_)
          intro v11 h11 hp11
          have D11 := D10.step hp11.1 hp11.2
          clear hp11
          rw [failS_idem 15 15 a a s9 (by decide)] at D11
          simp only [C.cut_choice_gos, T.tv, seval]
        case' neg =>
          have D11 := D10
          simp only [C.cut_choice_gos, T.tv, seval, g2]
        all_goals
          refine loop_intro [0, 1, 2, 6, 7] (fun m ρ hc => ρ = [(0, .pointer (some ⟨g, 0, none⟩)), (1, .pointer (some ⟨q, 0, none⟩)), (2, .bool false), (6, .int .i64 (hi - n + 1)), (7, .int .i64 0)] ∧ CS h hc g q l { x with tgts := [(a : Int) + t0], low := n } (failS 15 a s9)) ?_ ?_
          · simp only [T.tv, seval]
            exact ⟨0, D11⟩
          rintro m ρ hc ⟨rfl, D12⟩
          have g3 : ¬ (0 : Int) < hi - n + 1 := by omega
          simp only [C.cut_choice_gos, T.tv, seval, g3]
          exact ⟨D12.fr, D12.rd, D12.xr⟩
      · rw [if_neg hlow] at hY
        obtain ⟨cnt, hcnt⟩ : ∃ cnt : Nat, hi - n + 1 = (cnt : Int) := ⟨(hi - n + 1).toNat, by omega⟩
        rw [hcnt, Int.toNat_natCast] at hY
        have hneg : ¬ (cnt : Int) < 0 := by omega
        have hneg1 : ¬ (cnt : Int) < 1 := by omega
        simp (disch := omega) only [C.cut_choice_gos, T.tv, seval, hv9, hcnt, hneg, hneg1]
        refine rows { x with tgts := [(a : Int) + t0], low := n } cnt s9 h9 ha hk rfl (by omega) D9 hY _ ?_
        simp only [vs, ↓reduceIte, Nat.reduceEqDiff, reduceCtorEq]
    · rw [if_neg (by decide)] at hY
      simp only [decide_true] at rows
      by_cases hneg : n < 0
      · rw [if_pos hneg] at hY
        subst hY
        simp only [C.cut_choice_gos, T.tv, seval, hv7, fx7, hneg]
        refine eff_callF rfl ((cfail_any 15 a D7.rd).mono ?_)
        intro v10 h10 hp10
        have D10 := D7.step hp10.1 hp10.2
        clear hp10
        simp only [C.cut_choice_gos, T.tv, seval]
        refine loop_intro [0, 1, 2, 6, 7] (fun m ρ hc => ρ = [(0, .pointer (some ⟨g, 0, none⟩)), (1, .pointer (some ⟨q, 0, none⟩)), (2, .bool true), (6, .int .i64 n), (7, .int .i64 0)] ∧ CS h hc g q l { x with tgts := [(a : Int) + t0] } (failS 15 a s7)) ?_ ?_
        · simp only [T.tv, seval]
          exact ⟨0, D10⟩
        rintro m ρ hc ⟨rfl, D12⟩
        have g3 : ¬ (0 : Int) < n := by omega
        simp only [C.cut_choice_gos, T.tv, seval, g3]
        exact ⟨D12.fr, D12.rd, D12.xr⟩
      · rw [if_neg hneg] at hY
        obtain ⟨cnt, rfl⟩ : ∃ cnt : Nat, n = (cnt : Int) := ⟨n.toNat, by omega⟩
        rw [Int.toNat_natCast] at hY
        simp only [C.cut_choice_gos, T.tv, seval, hv7, hneg]
        refine rows { x with tgts := [(a : Int) + t0] } cnt s7 h7 ha hk rfl (by omega) D7 hY _ ?_
        simp only [vs, ↓reduceIte, Nat.reduceEqDiff, reduceCtorEq]
end
end Go.Proofs.YtflocjbhcjhenaaGreatDoor

/- maps.values: types of values out of bytes. -/
import Derived.Test.YtohkbpnblkkdgaaMP
import Derived.Test.YtohkbpnblkkdgaaR2
import Derived.Test.YtohkbpnblkkdgaaCg
namespace Go.Proofs.Ytohkbpnblkkdgaa
open Go.Vc
set_option maxRecDepth 100000
set_option linter.unusedSimpArgs false
set_option linter.unusedVariables false

section
variable {h0 h : Heap} {g : Nat} {l : List UInt8} {s : RS} {p : List Cst} {vp : Value}
set_option maxHeartbeats 4000000 in
theorem values_any (n : Nat) (hl : l.length ≤ 1073741824) (hn : n ≤ 1073741824) (hx0 : Ext h0 h) (hg : h0.size ≤ g) (hp : SlN h0 5 vp p.length (flatS p)) (hpf : ∀ c ∈ p, c.Fit) (H : Rdr h g l s) :
    HCalls Try.prog 66 #[.pointer (some ⟨g, 0, none⟩), vp, .int .i64 n] h fun v h' => Fr (fun k => k = g) h h' ∧ Rdr h' g l (valsD p l n [] s).2 ∧
      ∃ xs : List VT, Own h' h.size 25 3 v xs.length (flatV xs) ∧ xs.length ≤ n ∧ ((valsD p l n [] s).2.e = 0 → xs = (valsD p l n [] s).1) := by
  refine C.maps_values_calls (args := [.pointer (some ⟨g, 0, none⟩), vp, .int .i64 n]) rfl ?_
  generalize hY : valsD p l n [] s = Y
  have hp' := hp
  obtain ⟨_, ap, cp, rfl, _⟩ := hp'
  simp (disch := first | omega | assumption) only [C.maps_values_gos, vs, Go.Vc.vk, T.ts, ↓reduceIte, Nat.reduceEqDiff, reduceCtorEq, Nat.reduceLeDiff, Nat.reducePow, Int.reducePow, Int.reduceToNat, Nat.reduceAdd]
  refine loop_intro [0, 1, 7, 11, 12] (fun m ρ hc => ∃ (i : Nat) (xs : List VT) (s1 : RS) (sv : Value), m = n - i ∧ i ≤ n ∧ xs.length ≤ i ∧
      ρ = [(0, .pointer (some ⟨g, 0, none⟩)), (1, .slice ap p.length cp), (7, sv), (11, .int .i64 n), (12, .int .i64 i)] ∧ Fr (fun k => k = g) h hc ∧ Rdr hc g l s1 ∧
      Own hc h.size 25 3 sv xs.length (flatV xs) ∧ valsD p l (n - i) xs s1 = Y) ?_ ?_
  · simp (disch := first | omega | assumption) only [C.maps_values_gos, vs, Go.Vc.vk, T.ts, ↓reduceIte, Nat.reduceEqDiff, reduceCtorEq, Nat.reduceLeDiff, Nat.reducePow, Int.reducePow, Int.reduceToNat, Nat.reduceAdd]
    exact ⟨_, 0, [], s, _, rfl, Nat.zero_le _, Nat.le_refl _, rfl, Fr.refl _ _, H, Own.nil, hY⟩
  clear hY H
  rintro m ρ hc ⟨i, xs, s1, sv, rfl, hi, hxl, rfl, F, R, own, hY⟩
  have X0 : Ext h0 hc := Fr.trans hx0 F (fun _ _ h => h) (fun k hk hs => by omega)
  rcases Nat.lt_or_ge i n with hlt | hge
  case inr =>
    have hlt' : ¬ (i : Int) < n := by omega
    rw [show n - i = 0 by omega, valsD] at hY
    subst hY
    simp (disch := first | omega | assumption) only [C.maps_values_gos, vs, Go.Vc.vk, T.ts, ↓reduceIte, Nat.reduceEqDiff, reduceCtorEq, Nat.reduceLeDiff, Nat.reducePow, Int.reducePow, Int.reduceToNat, Nat.reduceAdd, hlt']
    exact ⟨F, R, xs, own, by omega, fun _ => rfl⟩
  have hlt' : (i : Int) < n := by omega
  obtain ⟨k, hk⟩ : ∃ k, n - i = k + 1 := ⟨n - i - 1, by omega⟩
  rw [hk, valsD] at hY
  simp (disch := first | omega | assumption) only [C.maps_values_gos, vs, Go.Vc.vk, T.ts, ↓reduceIte, Nat.reduceEqDiff, reduceCtorEq, Nat.reduceLeDiff, Nat.reducePow, Int.reducePow, Int.reduceToNat, Nat.reduceAdd, hlt']
  refine eff_call_of ?_
  simp (disch := first | omega | assumption) only [C.maps_values_gos, vs, Go.Vc.vk, T.ts, ↓reduceIte, Nat.reduceEqDiff, reduceCtorEq, Nat.reduceLeDiff, Nat.reducePow, Int.reducePow, Int.reduceToNat, Nat.reduceAdd]
  refine (bad_any R).mono ?_
  rintro v2 h2 ⟨rfl, rfl⟩
  by_cases he : s1.e = 0
  case neg =>
    rw [if_pos (by simpa using he)] at hY
    subst hY
    simp (disch := first | omega | assumption) only [C.maps_values_gos, vs, Go.Vc.vk, T.ts, ↓reduceIte, Nat.reduceEqDiff, reduceCtorEq, Nat.reduceLeDiff, Nat.reducePow, Int.reducePow, Int.reduceToNat, Nat.reduceAdd, he]
    exact ⟨F, R, [], Own.nil, Nat.zero_le _⟩
  rw [if_neg (by simp [he])] at hY
  have hki : n - (i + 1) = k := by omega
  simp (disch := first | omega | assumption) only [C.maps_values_gos, vs, Go.Vc.vk, T.ts, ↓reduceIte, Nat.reduceEqDiff, reduceCtorEq, Nat.reduceLeDiff, Nat.reducePow, Int.reducePow, Int.reduceToNat, Nat.reduceAdd, he, decide_true]
  refine eff_call_of ?_
  simp (disch := first | omega | assumption) only [C.maps_values_gos, vs, Go.Vc.vk, T.ts, ↓reduceIte, Nat.reduceEqDiff, reduceCtorEq, Nat.reduceLeDiff, Nat.reducePow, Int.reducePow, Int.reduceToNat, Nat.reduceAdd]
  refine (at_any R).mono ?_
  rintro v3 h3 ⟨rfl, rfl⟩
  simp (disch := first | omega | assumption) only [C.maps_values_gos, vs, Go.Vc.vk, T.ts, ↓reduceIte, Nat.reduceEqDiff, reduceCtorEq, Nat.reduceLeDiff, Nat.reducePow, Int.reducePow, Int.reduceToNat, Nat.reduceAdd]
  refine eff_call_of ?_
  simp (disch := first | omega | assumption) only [C.maps_values_gos, vs, Go.Vc.vk, T.ts, ↓reduceIte, Nat.reduceEqDiff, reduceCtorEq, Nat.reduceLeDiff, Nat.reducePow, Int.reducePow, Int.reduceToNat, Nat.reduceAdd]
  refine (num_any 1 hl (by omega) R).mono ?_
  rintro v4 h4 ⟨f4, R4, rfl⟩
  have X4 : Ext h0 h4 := Fr.trans X0 f4 (fun _ _ h => h) (fun k hk hs => by omega)
  have F4 := Fr.trans F f4 (fun _ _ h => h) (fun _ _ h => h)
  have own4 := own.fr f4 (fun k hk hs => by subst hs; exact Own_ne own R.1 (by decide) hk)
  have ht := numS_lt (l := l) (n := 1) (s := s1)
  simp only [Nat.reducePow] at ht
  have hw : IntKind.u8.wrap ((numS l 1 s1).1 : Int) = ((numS l 1 s1).1 : Int) := wrap_u8 (by omega) (by omega)
  have hpl := R.2
  have hV : ∀ v s9, valD p l s1 = (v, s9) → valsD p l k (xs ++ [v]) s9 = Y := by intro v s9 e; rw [e] at hY; exact hY
  have hV2 : valD p l s1 = valD p l s1 := rfl
  conv at hV2 => rhs; unfold valD
  simp only at hV2
  generalize numS l 1 s1 = o at *
  obtain ⟨t, s2⟩ := o
  simp only at R4 hw ht hV2
  simp (disch := first | omega | assumption) only [C.maps_values_gos, vs, Go.Vc.vk, T.ts, ↓reduceIte, Nat.reduceEqDiff, reduceCtorEq, Nat.reduceLeDiff, Nat.reducePow, Int.reducePow, Int.reduceToNat, Nat.reduceAdd, hw]
  refine eff_alloc_z T.zr_25 ?_
  simp (disch := first | omega | assumption) only [C.maps_values_gos, vs, Go.Vc.vk, T.ts, ↓reduceIte, Nat.reduceEqDiff, reduceCtorEq, Nat.reduceLeDiff, Nat.reducePow, Int.reducePow, Int.reduceToNat, Nat.reduceAdd]
  refine eff_store_new_z T.zr_25 rfl rfl rfl (by simp [Value.cells, oneCell, str]) rfl ?_
  intro h5 x5 hlt5 hrd5 b5
  change h5[h4.size]? = some (.cells #[.int .u8 (t : Int), str [], .int .i64 0] 25 (0, 0)) at b5
  have X5 := X4.trans x5
  have F5 := Fr.trans F4 x5 (fun _ _ h => h) (fun _ _ h => h.elim)
  have own5 := own4.ext x5
  have R5 := R4.fr x5 id
  have hqg : h4.size ≠ g := by have := R4.lt; omega
  have hqh : h.size ≤ h4.size := F4.size
  have hqo : ∀ b, sv.ownBlock = some b → b ≠ h4.size := fun b hb => by have := own4.lt b hb; omega
  clear hrd5 hlt5 x5 own4 F4 X4 own X0 F R f4 R4 hY
  generalize h4.size = q at *
  have c0 : cellAt h5 ⟨q, 0, none⟩ = some (.int .u8 (t : Int)) := by rw [cellAt_of b5]; rfl
  rcases Classical.em (t = 7) with t7 | t7
  case' inl =>
    subst t7
    rw [if_pos rfl] at hV2
    rw [show ((7 : Nat) : Int) = 7 from rfl] at c0 b5
    simp (disch := first | omega | assumption) only [C.maps_values_gos, vs, Go.Vc.vk, T.ts, ↓reduceIte, Nat.reduceEqDiff, reduceCtorEq, Nat.reduceLeDiff, Nat.reducePow, Int.reducePow, Int.reduceToNat, Nat.reduceAdd, c0, Int.reduceEq, decide_true]
    refine eff_call_of ?_
    simp (disch := first | omega | assumption) only [C.maps_values_gos, vs, Go.Vc.vk, T.ts, ↓reduceIte, Nat.reduceEqDiff, reduceCtorEq, Nat.reduceLeDiff, Nat.reducePow, Int.reducePow, Int.reduceToNat, Nat.reduceAdd]
    refine (index_any hl R5).mono ?_
    rintro v6 h6 ⟨f6, R6, rfl⟩
    have hk16 := numS_lt (l := l) (n := 2) (s := s2)
    simp only [Nat.reducePow] at hk16
    generalize numS l 2 s2 = o at *
    obtain ⟨ix, s3⟩ := o
    simp only at hV2 R6 hk16
    have X6 : Ext h0 h6 := Fr.trans X5 f6 (fun _ _ h => h) (fun k hk hs => by omega)
    have F6 := Fr.trans F5 f6 (fun _ _ h => h) (fun _ _ h => h)
    have own6 := own5.fr f6 (fun k hk hs => by subst hs; exact Own_ne own5 R5.1 (by decide) hk)
    have b6 := Fr_blk f6 b5 hqg
    have hp6 := hp.ext (by decide) X6
    clear f6 R5 own5 F5 X5 b5 c0
    simp (disch := first | omega | assumption) only [C.maps_values_gos, vs, Go.Vc.vk, T.ts, ↓reduceIte, Nat.reduceEqDiff, reduceCtorEq, Nat.reduceLeDiff, Nat.reducePow, Int.reducePow, Int.reduceToNat, Nat.reduceAdd]
    refine eff_call_of ?_
    simp (disch := first | omega | assumption) only [C.maps_values_gos, vs, Go.Vc.vk, T.ts, ↓reduceIte, Nat.reduceEqDiff, reduceCtorEq, Nat.reduceLeDiff, Nat.reducePow, Int.reducePow, Int.reduceToNat, Nat.reduceAdd]
    refine (is_any ix 7 hk16 hp6).mono ?_
    rintro v7 h7 ⟨rfl, rfl⟩
    by_cases hi : isS p ix 7 = true
    case' neg =>
      rw [if_neg hi] at hV2
      have hi' : isS p ix 7 = false := by simpa using hi
      simp (disch := first | omega | assumption) only [C.maps_values_gos, vs, Go.Vc.vk, T.ts, ↓reduceIte, Nat.reduceEqDiff, reduceCtorEq, Nat.reduceLeDiff, Nat.reducePow, Int.reducePow, Int.reduceToNat, Nat.reduceAdd, hi']
      refine eff_call_of ?_
      simp (disch := first | omega | assumption) only [C.maps_values_gos, vs, Go.Vc.vk, T.ts, ↓reduceIte, Nat.reduceEqDiff, reduceCtorEq, Nat.reduceLeDiff, Nat.reducePow, Int.reducePow, Int.reduceToNat, Nat.reduceAdd]
      refine (fail_any 7 s1.p R6).mono ?_
      rintro v8 h8 ⟨f8, R8⟩
      have F8 := Fr.trans F6 f8 (fun _ _ h => h) (fun _ _ h => h)
      have own8 := own6.fr f8 (fun k hk hs => by subst hs; exact Own_ne own6 R6.1 (by decide) hk)
      have b8 := Fr_blk f8 b6 hqg
      clear f8 R6 own6 F6 X6 b6 hp6
      obtain ⟨v, hv⟩ : ∃ v : VT, v = ⟨7, [], 0⟩ := ⟨_, rfl⟩
      change h8[q]? = some (.cells (VT.cells ⟨7, [], 0⟩).toArray 25 (0, 0)) at b8
      rw [← hv] at hV2 b8
    case' pos =>
      rw [if_pos hi] at hV2
      have hcl : (clsOfS p ix).1 = if isS p (p.getD ix Cst.zero).a 1 = true then (p.getD (p.getD ix Cst.zero).a Cst.zero).text else [] := by unfold clsOfS; rw [if_pos hi]
      have h1 : ix < p.length := by
        unfold isS at hi
        simp at hi
        exact hi.1
      have h1' : (ix : Int) < p.length := by omega
      have hs' := hp6
      obtain ⟨bb, bo, bc, heq, hrd, _⟩ := hs'.at h1
      cases heq
      rw [flatS_at h1] at hrd
      have hfa : (p.getD ix Cst.zero).a < 65536 := (hpf _ (by simp [h1])).a
      rw [hcl] at hV2
      generalize p.getD ix Cst.zero = x at *
      have c3 : cellAt h7 ⟨bb, bo + ix * 5 + 3, none⟩ = some (.int .u16 (x.a : Int)) := hrd 3 _ rfl
      simp (disch := first | omega | assumption) only [C.maps_values_gos, vs, Go.Vc.vk, T.ts, ↓reduceIte, Nat.reduceEqDiff, reduceCtorEq, Nat.reduceLeDiff, Nat.reducePow, Int.reducePow, Int.reduceToNat, Nat.reduceAdd, hi, h1', c3]
      refine eff_call_of ?_
      simp (disch := first | omega | assumption) only [C.maps_values_gos, vs, Go.Vc.vk, T.ts, ↓reduceIte, Nat.reduceEqDiff, reduceCtorEq, Nat.reduceLeDiff, Nat.reducePow, Int.reducePow, Int.reduceToNat, Nat.reduceAdd]
      refine (string_any x.a hfa hp6).mono ?_
      rintro v8 h8 ⟨rfl, rfl⟩
      generalize (if isS p x.a 1 = true then (p.getD x.a Cst.zero).text else []) = nm at *
      have c1 : cellAt h8 ⟨q, 1, none⟩ = some (str []) := by rw [cellAt_of b6]; rfl
      simp (disch := first | omega | assumption) only [C.maps_values_gos, vs, Go.Vc.vk, T.ts, ↓reduceIte, Nat.reduceEqDiff, reduceCtorEq, Nat.reduceLeDiff, Nat.reducePow, Int.reducePow, Int.reduceToNat, Nat.reduceAdd]
      refine eff_store1_z T.zr_9 rfl rfl rfl rfl rfl c1 (by simp [frozenAt, b6]) ?_
      have b8 := setAt_get (o := 1) b6 (str nm)
      have f8 : Fr (fun k => k = q) h8 (setAt h8 ⟨q, 1, none⟩ (str nm)) := Fr.set (S := fun k => k = q) _ _ _ fun _ => rfl
      have F8 : Fr (fun k => k = g) h (setAt h8 ⟨q, 1, none⟩ (str nm)) := Fr.trans F6 f8 (fun _ _ h => h) (fun k hk hs => by omega)
      have own8 := own6.fr f8 (fun k hk hs => hqo k hk hs)
      have R8 := R6.fr f8 (fun e => hqg e.symm)
      clear f8 R6 own6 F6 X6 b6 hp6 c3 c1 hrd
      obtain ⟨v, hv⟩ : ∃ v : VT, v = ⟨7, nm, 0⟩ := ⟨_, rfl⟩
      change (setAt h8 ⟨q, 1, none⟩ (str nm))[q]? = some (.cells (VT.cells ⟨7, nm, 0⟩).toArray 25 (0, 0)) at b8
      rw [← hv] at hV2 b8
      generalize setAt h8 ⟨q, 1, none⟩ (str nm) = h8 at *
  case' inr =>
    rw [if_neg t7] at hV2
    have n7 : ¬ (t : Int) = 7 := by omega
    by_cases t8 : t = 8
    case' pos =>
      subst t8
      rw [if_pos rfl] at hV2
      rw [show ((8 : Nat) : Int) = 8 from rfl] at c0 b5
      simp (disch := first | omega | assumption) only [C.maps_values_gos, vs, Go.Vc.vk, T.ts, ↓reduceIte, Nat.reduceEqDiff, reduceCtorEq, Nat.reduceLeDiff, Nat.reducePow, Int.reducePow, Int.reduceToNat, Nat.reduceAdd, c0, Int.reduceEq, decide_true, decide_false]
      refine eff_call_of ?_
      simp (disch := first | omega | assumption) only [C.maps_values_gos, vs, Go.Vc.vk, T.ts, ↓reduceIte, Nat.reduceEqDiff, reduceCtorEq, Nat.reduceLeDiff, Nat.reducePow, Int.reducePow, Int.reduceToNat, Nat.reduceAdd]
      refine (num_any 2 hl (by omega) R5).mono ?_
      rintro v6 h6 ⟨f6, R6, rfl⟩
      have hk16 := numS_lt (l := l) (n := 2) (s := s2)
      simp only [Nat.reducePow] at hk16
      generalize numS l 2 s2 = o at *
      obtain ⟨ix, s3⟩ := o
      simp only at hV2 R6 hk16
      have F6 := Fr.trans F5 f6 (fun _ _ h => h) (fun _ _ h => h)
      have own6 := own5.fr f6 (fun k hk hs => by subst hs; exact Own_ne own5 R5.1 (by decide) hk)
      have b6 := Fr_blk f6 b5 hqg
      have c2 : cellAt h6 ⟨q, 2, none⟩ = some (.int .i64 0) := by rw [cellAt_of b6]; rfl
      simp (disch := first | omega | assumption) only [C.maps_values_gos, vs, Go.Vc.vk, T.ts, ↓reduceIte, Nat.reduceEqDiff, reduceCtorEq, Nat.reduceLeDiff, Nat.reducePow, Int.reducePow, Int.reduceToNat, Nat.reduceAdd]
      refine eff_store1_z T.zr_3 rfl rfl rfl rfl rfl c2 (by simp [frozenAt, b6]) ?_
      have b8 := setAt_get (o := 2) b6 (.int .i64 (ix : Int))
      have f8 : Fr (fun k => k = q) h6 (setAt h6 ⟨q, 2, none⟩ (.int .i64 (ix : Int))) := Fr.set (S := fun k => k = q) _ _ _ fun _ => rfl
      have F8 : Fr (fun k => k = g) h (setAt h6 ⟨q, 2, none⟩ (.int .i64 (ix : Int))) := Fr.trans F6 f8 (fun _ _ h => h) (fun k hk hs => by omega)
      have own8 := own6.fr f8 (fun k hk hs => hqo k hk hs)
      have R8 := R6.fr f8 (fun e => hqg e.symm)
      clear f8 f6 R6 R5 own6 own5 F6 F5 X5 b6 b5 c0 c2
      obtain ⟨v, hv⟩ : ∃ v : VT, v = ⟨8, [], (ix : Int)⟩ := ⟨_, rfl⟩
      change (setAt h6 ⟨q, 2, none⟩ (.int .i64 (ix : Int)))[q]? = some (.cells (VT.cells ⟨8, [], (ix : Int)⟩).toArray 25 (0, 0)) at b8
      rw [← hv] at hV2 b8
      generalize setAt h6 ⟨q, 2, none⟩ (.int .i64 (ix : Int)) = h8 at *
    case' neg =>
      rw [if_neg t8] at hV2
      have n8 : ¬ (t : Int) = 8 := by omega
      by_cases h8t : 8 < t
      case' pos =>
        rw [if_pos h8t] at hV2
        have h8' : (8 : Int) < t := by omega
        simp (disch := first | omega | assumption) only [C.maps_values_gos, vs, Go.Vc.vk, T.ts, ↓reduceIte, Nat.reduceEqDiff, reduceCtorEq, Nat.reduceLeDiff, Nat.reducePow, Int.reducePow, Int.reduceToNat, Nat.reduceAdd, c0, eq_false n7, eq_false n8, h8', decide_true, decide_false]
        refine eff_call_of ?_
        simp (disch := first | omega | assumption) only [C.maps_values_gos, vs, Go.Vc.vk, T.ts, ↓reduceIte, Nat.reduceEqDiff, reduceCtorEq, Nat.reduceLeDiff, Nat.reducePow, Int.reducePow, Int.reduceToNat, Nat.reduceAdd]
        refine (fail_any 17 s1.p R5).mono ?_
        rintro v8 h8 ⟨f8, R8⟩
        have F8 := Fr.trans F5 f8 (fun _ _ h => h) (fun _ _ h => h)
        have own8 := own5.fr f8 (fun k hk hs => by subst hs; exact Own_ne own5 R5.1 (by decide) hk)
        have b8 := Fr_blk f8 b5 hqg
        clear f8 R5 own5 F5 X5 b5 c0
      case' neg =>
        rw [if_neg h8t] at hV2
        have h8' : ¬ (8 : Int) < t := by omega
        have F8 := F5
        have own8 := own5
        have R8 := R5
        have b8 := b5
        clear R5 own5 F5 X5 b5
        simp (disch := first | omega | assumption) only [C.maps_values_gos, vs, Go.Vc.vk, T.ts, ↓reduceIte, Nat.reduceEqDiff, reduceCtorEq, Nat.reduceLeDiff, Nat.reducePow, Int.reducePow, Int.reduceToNat, Nat.reduceAdd, c0, eq_false n7, eq_false n8, h8', decide_true, decide_false]
      all_goals
        obtain ⟨v, hv⟩ : ∃ v : VT, v = ⟨t, [], 0⟩ := ⟨_, rfl⟩
        rw [← hv] at hV2
        replace b8 := b8.trans (show some (Obj.cells #[.int .u8 (t : Int), str [], .int .i64 0] 25 (0, 0)) = some (.cells v.cells.toArray 25 (0, 0)) by rw [hv]; rfl)
  all_goals
    have hld := ld_agg T.ag_25 (Rd_block (vs := v.cells) b8) rfl
    have hvs := hV _ _ hV2
    clear hV hV2 hv b8
    obtain ⟨vt, vn, va⟩ := v
    simp only [VT.cells] at hld
    simp (disch := first | omega | assumption) only [C.maps_values_gos, vs, Go.Vc.vk, T.ts, ↓reduceIte, Nat.reduceEqDiff, reduceCtorEq, Nat.reduceLeDiff, Nat.reducePow, Int.reducePow, Int.reduceToNat, Nat.reduceAdd, hld]
    refine eff_lits T.slT_23 rfl rfl (by decide) ?_
    simp (disch := first | omega | assumption) only [C.maps_values_gos, vs, Go.Vc.vk, T.ts, ↓reduceIte, Nat.reduceEqDiff, reduceCtorEq, Nat.reduceLeDiff, Nat.reducePow, Int.reducePow, Int.reduceToNat, Nat.reduceAdd]
    have R8p := R8.fr (Ext.push _ (.cells (VT.cells ⟨vt, vn, va⟩).toArray 25)) id
    have own8p := own8.push (.cells (VT.cells ⟨vt, vn, va⟩).toArray 25)
    have F8p := Fr.trans F8 (Ext.push _ (.cells (VT.cells ⟨vt, vn, va⟩).toArray 25)) (fun _ _ h => h) (fun _ _ h => h.elim)
    refine eff_append_own (m := 1) T.slT_23 rfl rfl own8p rfl (Rd_new (vs := VT.cells ⟨vt, vn, va⟩)) (by simp [VT.cells, oneCell, str]) (by omega) (by omega) F8p.size ?_
    intro v10 h10 own10 fr10 _
    have F10 := Fr.trans F8p fr10 (fun _ _ h => h) (fun k hk hs => by have := own8.lt k hs; omega)
    have R10 := R8p.fr fr10 (Own_ne own8p R8p.1 (by decide))
    have own11 : Own h10 h.size 25 3 v10 (xs ++ [VT.mk vt vn va]).length (flatV (xs ++ [VT.mk vt vn va])) := Own_cast own10 (by simp) (by simp [flatV])
    simp (disch := first | omega | assumption) only [C.maps_values_gos, vs, Go.Vc.vk, T.ts, ↓reduceIte, Nat.reduceEqDiff, reduceCtorEq, Nat.reduceLeDiff, Nat.reducePow, Int.reducePow, Int.reduceToNat, Nat.reduceAdd]
    exact ⟨_, by omega, i + 1, xs ++ [VT.mk vt vn va], _, v10, rfl, by omega, by simp; omega, by simp, F10, R10, own11, by rw [hki]; exact hvs⟩
end
end Go.Proofs.Ytohkbpnblkkdgaa

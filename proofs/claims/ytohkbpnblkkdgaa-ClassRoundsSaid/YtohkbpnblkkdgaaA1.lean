/- pool.Units: the closure that reads a byte more. -/
import Derived.Test.YtohkbpnblkkdgaaPa
import Derived.Test.YtohkbpnblkkdgaaCu
import Derived.Test.YtohkbpnblkkdgaaT
namespace Go.Proofs.Ytohkbpnblkkdgaa
open Go.Vc
set_option maxRecDepth 100000
set_option linter.unusedSimpArgs false
set_option linter.unusedVariables false

def moreV (l : List UInt8) (i : Nat) : Value := match moreS l i with
  | some x => .tuple #[.int .u16 (x : Int), .bool true]
  | none => .tuple #[.int .u16 0, .bool false]
theorem moreV_no {l : List UInt8} {i : Nat} (h : moreS l i = none) : moreV l i = .tuple #[.int .u16 0, .bool false] := by simp [moreV, h]
theorem moreV_yes {l : List UInt8} {i x : Nat} (h : moreS l i = some x) : moreV l i = .tuple #[.int .u16 (x : Int), .bool true] := by simp [moreV, h]

theorem more_any (l : List UInt8) (i : Int) (b : Nat) (h : Heap) (hi : 0 ≤ i) (hb : cellAt h ⟨b, 0, none⟩ = some (str l)) :
   HCalls Try.prog 90 #[.int .i64 i, .pointer (some ⟨b, 0, none⟩)] h fun v h' => h' = h ∧ v = moreV l i.toNat := by
  refine C.pool_Units_1_calls (args := [.int .i64 i, .pointer (some ⟨b, 0, none⟩)]) rfl ?_
  simp (disch := first | omega | assumption) only [C.pool_Units_1_gos, T.tv, ↓reduceIte, Nat.reduceEqDiff, reduceCtorEq, Nat.reduceLeDiff, Nat.reducePow, Int.reducePow, Int.reduceToNat, Nat.reduceAdd, hb]
  refine br_intro (fun h1 => ?_) (fun h1 => ?_)
  · simp (disch := first | omega | assumption) only [C.pool_Units_1_gos, T.tv, ↓reduceIte, Nat.reduceEqDiff, reduceCtorEq, Nat.reduceLeDiff, Nat.reducePow, Int.reducePow, Int.reduceToNat, Nat.reduceAdd, hb, h1]
    exact (moreV_no (if_neg (by omega))).symm
  · simp (disch := first | omega | assumption) only [C.pool_Units_1_gos, T.tv, ↓reduceIte, Nat.reduceEqDiff, reduceCtorEq, Nat.reduceLeDiff, Nat.reducePow, Int.reducePow, Int.reduceToNat, Nat.reduceAdd, hb, h1, and_192]
    refine br_intro (fun h2 => ?_) (fun h2 => ?_)
    · simp (disch := first | omega | assumption) only [C.pool_Units_1_gos, T.tv, ↓reduceIte, Nat.reduceEqDiff, reduceCtorEq, Nat.reduceLeDiff, Nat.reducePow, Int.reducePow, Int.reduceToNat, Nat.reduceAdd, hb, h2, and_63]
      exact (moreV_yes (if_pos (by omega))).symm
    · simp (disch := first | omega | assumption) only [C.pool_Units_1_gos, T.tv, ↓reduceIte, Nat.reduceEqDiff, reduceCtorEq, Nat.reduceLeDiff, Nat.reducePow, Int.reducePow, Int.reduceToNat, Nat.reduceAdd, h2]
      exact (moreV_no (if_neg (by omega))).symm

theorem enc_1 {u : Nat} (h1 : 0 < u) (h2 : u < 128) : enc u = [UInt8.ofNat u] := if_pos ⟨h1, h2⟩
theorem enc_2 {u : Nat} (h1 : ¬ (0 < u ∧ u < 128)) (h2 : u < 2048) : enc u = [UInt8.ofNat (192 + u / 64), UInt8.ofNat (128 + u % 64)] := by rw [enc, if_neg h1, if_pos h2]
theorem enc_3 {u : Nat} (h1 : ¬ u < 2048) : enc u = [UInt8.ofNat (224 + u / 4096), UInt8.ofNat (128 + u / 64 % 64), UInt8.ofNat (128 + u % 64)] := by rw [enc, if_neg (by omega), if_neg h1]
theorem unit_any (u : Nat) (h : Heap) (hu : u < 65536) :
    HCalls Try.prog 91 #[.int .i64 u] h fun v h' => Ext h h' ∧ v = str (enc u) := by
  refine C.ref1_unit_calls (args := [.int .i64 u]) rfl ?_
  have big : ¬ (0 < u ∧ u < 128) → ∀ ρ : Env, True := fun _ _ => trivial
  simp (disch := first | omega | assumption) only [C.ref1_unit_gos, T.tv, ↓reduceIte, Nat.reduceEqDiff, reduceCtorEq, Nat.reduceLeDiff, Nat.reducePow, Int.reducePow, Int.reduceToNat, Nat.reduceAdd]
  by_cases hs : 0 < u ∧ u < 128
  · refine br_pos (by omega) ?_
    simp (disch := first | omega | assumption) only [C.ref1_unit_gos, T.tv, ↓reduceIte, Nat.reduceEqDiff, reduceCtorEq, Nat.reduceLeDiff, Nat.reducePow, Int.reducePow, Int.reduceToNat, Nat.reduceAdd, show 0 < (u : Int) by omega]
    refine br_pos (by omega) ?_
    simp (disch := first | omega | assumption) only [C.ref1_unit_gos, T.tv, ↓reduceIte, Nat.reduceEqDiff, reduceCtorEq, Nat.reduceLeDiff, Nat.reducePow, Int.reducePow, Int.reduceToNat, Nat.reduceAdd, show (u : Int) < 128 by omega]
    refine eff_lits T.slT_69 rfl rfl (by decide) ?_
    simp (disch := first | omega | assumption) only [C.ref1_unit_gos, T.tv, ↓reduceIte, Nat.reduceEqDiff, reduceCtorEq, Nat.reduceLeDiff, Nat.reducePow, Int.reducePow, Int.reduceToNat, Nat.reduceAdd, enc_1 hs.1 hs.2, Int.toNat_natCast]
    exact Ext.push _ _
  · by_cases hm : u < 2048
    · have e1 : (192 + (u : Int) / 64).toNat = 192 + u / 64 := by omega
      have e2 : (128 + (u : Int) % 64).toNat = 128 + u % 64 := by omega
      refine br_intro (fun h1 => ?_) (fun h1 => ?_)
      · simp (disch := first | omega | assumption) only [C.ref1_unit_gos, T.tv, ↓reduceIte, Nat.reduceEqDiff, reduceCtorEq, Nat.reduceLeDiff, Nat.reducePow, Int.reducePow, Int.reduceToNat, Nat.reduceAdd, h1, show ¬ (u : Int) < 128 by omega]
        refine br_pos (by omega) ?_
        simp (disch := first | omega | assumption) only [C.ref1_unit_gos, T.tv, ↓reduceIte, Nat.reduceEqDiff, reduceCtorEq, Nat.reduceLeDiff, Nat.reducePow, Int.reducePow, Int.reduceToNat, Nat.reduceAdd, show (u : Int) < 2048 by omega]
        refine eff_lits T.slT_69 rfl rfl (by decide) ?_
        simp (disch := first | omega | assumption) only [C.ref1_unit_gos, T.tv, ↓reduceIte, Nat.reduceEqDiff, reduceCtorEq, Nat.reduceLeDiff, Nat.reducePow, Int.reducePow, Int.reduceToNat, Nat.reduceAdd, enc_2 hs hm, e1, e2]
        exact Ext.push _ _
      · simp (disch := first | omega | assumption) only [C.ref1_unit_gos, T.tv, ↓reduceIte, Nat.reduceEqDiff, reduceCtorEq, Nat.reduceLeDiff, Nat.reducePow, Int.reducePow, Int.reduceToNat, Nat.reduceAdd, h1]
        refine br_pos (by omega) ?_
        simp (disch := first | omega | assumption) only [C.ref1_unit_gos, T.tv, ↓reduceIte, Nat.reduceEqDiff, reduceCtorEq, Nat.reduceLeDiff, Nat.reducePow, Int.reducePow, Int.reduceToNat, Nat.reduceAdd, show (u : Int) < 2048 by omega]
        refine eff_lits T.slT_69 rfl rfl (by decide) ?_
        simp (disch := first | omega | assumption) only [C.ref1_unit_gos, T.tv, ↓reduceIte, Nat.reduceEqDiff, reduceCtorEq, Nat.reduceLeDiff, Nat.reducePow, Int.reducePow, Int.reduceToNat, Nat.reduceAdd, enc_2 hs hm, e1, e2]
        exact Ext.push _ _
    · have e0 : (224 + (u : Int) / 4096).toNat = 224 + u / 4096 := by omega
      have e1 : (128 + (u : Int) / 64 % 64).toNat = 128 + u / 64 % 64 := by omega
      have e2 : (128 + (u : Int) % 64).toNat = 128 + u % 64 := by omega
      refine br_pos (by omega) ?_
      simp (disch := first | omega | assumption) only [C.ref1_unit_gos, T.tv, ↓reduceIte, Nat.reduceEqDiff, reduceCtorEq, Nat.reduceLeDiff, Nat.reducePow, Int.reducePow, Int.reduceToNat, Nat.reduceAdd, show 0 < (u : Int) by omega, show ¬ (u : Int) < 128 by omega, show ¬ (u : Int) < 2048 by omega]
      refine eff_lits T.slT_69 rfl rfl (by decide) ?_
      simp (disch := first | omega | assumption) only [C.ref1_unit_gos, T.tv, ↓reduceIte, Nat.reduceEqDiff, reduceCtorEq, Nat.reduceLeDiff, Nat.reducePow, Int.reducePow, Int.reduceToNat, Nat.reduceAdd, enc_3 hm, e0, e1, e2]
      exact Ext.push _ _

def URes (k : IntKind) (e : TypeId) (base : Nat) (o : Option (List Nat)) (v : Value) (h : Heap) : Prop := match o with
  | none => v = .tuple #[.slice none 0 0, .bool false]
  | some us => ∃ sv, v = .tuple #[sv, .bool true] ∧ Own h base e 1 sv us.length (us.map fun u : Nat => .int k (u : Int))

theorem units_any (l : List UInt8) (h : Heap) (hl : l.length ≤ 1073741824) :
    HCalls Try.prog 73 #[str l] h fun v h' => Ext h h' ∧ URes .u16 38 h.size (unitsS l) v h' := by
  refine C.pool_Units_calls (args := [str l]) rfl ?_
  simp (disch := first | omega | assumption) only [C.pool_Units_gos, T.tv, ↓reduceIte, Nat.reduceEqDiff, reduceCtorEq, Nat.reduceLeDiff, Nat.reducePow, Int.reducePow, Int.reduceToNat, Nat.reduceAdd]
  refine eff_box ?_
  simp (disch := first | omega | assumption) only [C.pool_Units_gos, T.tv, ↓reduceIte, Nat.reduceEqDiff, reduceCtorEq, Nat.reduceLeDiff, Nat.reducePow, Int.reducePow, Int.reduceToNat, Nat.reduceAdd]
  refine loop_intro [1, 4, 5, 6] (fun m ρ hc => ∃ (i : Nat) (us : List Nat) (out : Value), m = l.length - i ∧ i ≤ l.length ∧ us.length ≤ i ∧
      ρ = [(1, .pointer (some ⟨h.size, 0, none⟩)), (4, out), (5, .func (.func 90) #[] #[.pointer (some ⟨h.size, 0, none⟩)]), (6, .int .i64 i)] ∧
      Own hc (h.size + 1) 38 1 out us.length (us.map fun u : Nat => .int .u16 (u : Int)) ∧ Ext (h.push (.cells #[str l] 9)) hc ∧
      unitsS l = (unitsAt l (l.length - i) i).map fun r => us ++ r) ?_ ?_
  · simp (disch := first | omega | assumption) only [C.pool_Units_gos, T.tv, ↓reduceIte, Nat.reduceEqDiff, reduceCtorEq, Nat.reduceLeDiff, Nat.reducePow, Int.reducePow, Int.reduceToNat, Nat.reduceAdd]
    exact ⟨_, 0, [], _, rfl, Nat.zero_le _, Nat.le_refl _, rfl, Own.nil, Ext.refl _, by simp [unitsS]⟩
  · rintro m ρ hc ⟨i, us, out, rfl, hi, hul, rfl, hown, hext, hS⟩
    have hcell : cellAt hc ⟨h.size, 0, none⟩ = some (str l) := by
      rw [Fr.cell hext (by simp) (fun h => h), cellAt_push_new]; rfl
    have hsz : h.size + 1 ≤ hc.size := by have := hext.size; simp at this; omega
    have hc8 := UInt8.toNat_lt (l.getD i 0)
    by_cases hlt : i < l.length
    · have hlt' : (i : Int) < l.length := by omega
      have hmc := fun (j : Nat) => more_any l (j : Int) h.size hc (by omega) hcell
      by_cases a1 : 0 < (l.getD i 0).toNat ∧ (l.getD i 0).toNat < 128
      · simp (disch := first | omega | assumption) only [C.pool_Units_gos, T.tv, ↓reduceIte, Nat.reduceEqDiff, reduceCtorEq, Nat.reduceLeDiff, Nat.reducePow, Int.reducePow, Int.reduceToNat, Nat.reduceAdd, hcell, hlt', show 0 < ((l.getD i 0).toNat : Int) by omega, show ((l.getD i 0).toNat : Int) < 128 by omega]
        refine eff_lits T.slT_39 rfl rfl (by decide) ?_
        simp (disch := first | omega | assumption) only [C.pool_Units_gos, T.tv, ↓reduceIte, Nat.reduceEqDiff, reduceCtorEq, Nat.reduceLeDiff, Nat.reducePow, Int.reducePow, Int.reduceToNat, Nat.reduceAdd]
        refine eff_append_own T.slT_39 rfl rfl (hown.push _) rfl (Rd_new (vs := [.int .u16 ((l.getD i 0).toNat : Int)])) (by simp [oneCell]) (by omega) (by omega) (by simp; omega) ?_
        intro v' h' hown' hfr _
        simp (disch := first | omega | assumption) only [C.pool_Units_gos, T.tv, ↓reduceIte, Nat.reduceEqDiff, reduceCtorEq, Nat.reduceLeDiff, Nat.reducePow, Int.reducePow, Int.reduceToNat, Nat.reduceAdd]
        exact ⟨l.length - (i + 1), by omega, i + 1, us ++ [(l.getD i 0).toNat], v', rfl, by omega, by simp; omega, by simp, by simpa using hown',
          Ext.app (hext.trans (Ext.push _ _)) hfr (fun k hk => by have := (hown.lt k hk).1; simpa using this), units_step hS hlt (dec1_1 a1)⟩
      · by_cases a2 : (l.getD i 0).toNat / 32 = 6
        · have b1 : 0 < ((l.getD i 0).toNat : Int) := by omega
          have b2 : ¬ ((l.getD i 0).toNat : Int) < 128 := by omega
          have b3 : (((l.getD i 0).toNat / 32 * 32 : Nat) : Int) = 192 := by omega
          simp (disch := first | omega | assumption) only [C.pool_Units_gos, T.tv, ↓reduceIte, Nat.reduceEqDiff, reduceCtorEq, Nat.reduceLeDiff, Nat.reducePow, Int.reducePow, Int.reduceToNat, Nat.reduceAdd, hcell, hlt', b1, b2, and_224, b3]
          refine eff_call_of  ?_
          simp (disch := first | omega | assumption) only [C.pool_Units_gos, T.tv, ↓reduceIte, Nat.reduceEqDiff, reduceCtorEq, Nat.reduceLeDiff, Nat.reducePow, Int.reducePow, Int.reduceToNat, Nat.reduceAdd]
          refine (more_any l ((i : Int) + 1) h.size hc (by omega) hcell).mono ?_
          rintro v h' ⟨rfl, rfl⟩
          rw [show ((i : Int) + 1).toNat = i + 1 by omega]
          cases hm : moreS l (i + 1) with
          | none =>
            rw [moreV_no hm]
            simp (disch := first | omega | assumption) only [C.pool_Units_gos, T.tv, ↓reduceIte, Nat.reduceEqDiff, reduceCtorEq, Nat.reduceLeDiff, Nat.reducePow, Int.reducePow, Int.reduceToNat, Nat.reduceAdd, and_31, Int.add_zero]
            rw [units_fail hS hlt (dec1_2n a2 hm)]
            exact ⟨(Ext.push _ _).trans hext, rfl⟩
          | some x =>
            obtain ⟨hx, hlx⟩ := moreS_lt hm
            rw [moreV_yes hm]
            by_cases hu : (l.getD i 0).toNat % 32 * 64 + x < 128 ∧ (l.getD i 0).toNat % 32 * 64 + x ≠ 0
            · have c1 : (((l.getD i 0).toNat % 32 * 64 + x : Nat) : Int) < 128 := by omega
              have c2 : ¬ (((l.getD i 0).toNat % 32 * 64 + x : Nat) : Int) = 0 := by omega
              simp (disch := first | omega | assumption) only [C.pool_Units_gos, T.tv, ↓reduceIte, Nat.reduceEqDiff, reduceCtorEq, Nat.reduceLeDiff, Nat.reducePow, Int.reducePow, Int.reduceToNat, Nat.reduceAdd, and_31, or_6, c1, c2]
              rw [units_fail hS hlt (dec1_2f a2 hm hu)]
              exact ⟨(Ext.push _ _).trans hext, rfl⟩
            · have c1 : (decide ((((l.getD i 0).toNat % 32 * 64 + x : Nat) : Int) < 128) && decide (¬ (((l.getD i 0).toNat % 32 * 64 + x : Nat) : Int) = 0)) = false := by
                simp only [Bool.and_eq_false_iff, decide_eq_false_iff_not]; omega
              have fin : ∀ (i0 : Nat), i0 = i → ∀ (v' : Value) (h'' : Heap), Own h'' (h.size + 1) 38 1 v' (us.length + 1) (us.map (fun u : Nat => .int .u16 (u : Int)) ++ [.int .u16 (((l.getD i 0).toNat % 32 * 64 + x : Nat) : Int)]) →
                  Fr (fun k => out.ownBlock = some k) (h'.push (.cells #[.int .u16 (((l.getD i 0).toNat % 32 * 64 + x : Nat) : Int)] 38)) h'' →
                  ∃ m', m' < l.length - i ∧ ∃ (i : Nat) (us : List Nat) (out : Value), m' = l.length - i ∧ i ≤ l.length ∧ us.length ≤ i ∧
                  [(1, Value.pointer (some ⟨h.size, 0, none⟩)), (4, v'), (5, .func (.func 90) #[] #[.pointer (some ⟨h.size, 0, none⟩)]), (6, .int .i64 ((i0 : Int) + 2))] = [(1, .pointer (some ⟨h.size, 0, none⟩)), (4, out), (5, .func (.func 90) #[] #[.pointer (some ⟨h.size, 0, none⟩)]), (6, .int .i64 i)] ∧
                  Own h'' (h.size + 1) 38 1 out us.length (us.map fun u : Nat => .int .u16 (u : Int)) ∧ Ext (h.push (.cells #[str l] 9)) h'' ∧
                  unitsS l = (unitsAt l (l.length - i) i).map fun r => us ++ r := by
                intro i0 hi0 v' h'' hown' hfr
                subst hi0
                exact ⟨l.length - (i0 + 2), by omega, i0 + 2, us ++ [(l.getD i0 0).toNat % 32 * 64 + x], v', rfl, by omega, by simp; omega, by simp, by simpa using hown',
                  Ext.app (hext.trans (Ext.push _ _)) hfr (fun k hk => by have := (hown.lt k hk).1; simpa using this), units_step hS hlt (dec1_2 a2 hm hu)⟩
              by_cases c3 : (((l.getD i 0).toNat % 32 * 64 + x : Nat) : Int) < 128
              · have c4 : (((l.getD i 0).toNat % 32 * 64 + x : Nat) : Int) = 0 := by omega
                simp (disch := first | omega | assumption) only [C.pool_Units_gos, T.tv, ↓reduceIte, Nat.reduceEqDiff, reduceCtorEq, Nat.reduceLeDiff, Nat.reducePow, Int.reducePow, Int.reduceToNat, Nat.reduceAdd, and_31, or_6, c3, eq_true c4]
                refine eff_lits T.slT_39 rfl rfl (by decide) ?_
                simp (disch := first | omega | assumption) only [C.pool_Units_gos, T.tv, ↓reduceIte, Nat.reduceEqDiff, reduceCtorEq, Nat.reduceLeDiff, Nat.reducePow, Int.reducePow, Int.reduceToNat, Nat.reduceAdd]
                refine eff_append_own T.slT_39 rfl rfl (hown.push _) rfl (Rd_new (vs := [.int .u16 (((l.getD i 0).toNat % 32 * 64 + x : Nat) : Int)])) (by simp [oneCell]) (by omega) (by omega) (by simp; omega) ?_
                intro v' h'' hown' hfr _
                simp (disch := first | omega | assumption) only [C.pool_Units_gos, T.tv, ↓reduceIte, Nat.reduceEqDiff, reduceCtorEq, Nat.reduceLeDiff, Nat.reducePow, Int.reducePow, Int.reduceToNat, Nat.reduceAdd]
                exact fin i rfl v' h'' hown' hfr
              · simp (disch := first | omega | assumption) only [C.pool_Units_gos, T.tv, ↓reduceIte, Nat.reduceEqDiff, reduceCtorEq, Nat.reduceLeDiff, Nat.reducePow, Int.reducePow, Int.reduceToNat, Nat.reduceAdd, and_31, or_6, c3]
                refine eff_lits T.slT_39 rfl rfl (by decide) ?_
                simp (disch := first | omega | assumption) only [C.pool_Units_gos, T.tv, ↓reduceIte, Nat.reduceEqDiff, reduceCtorEq, Nat.reduceLeDiff, Nat.reducePow, Int.reducePow, Int.reduceToNat, Nat.reduceAdd]
                refine eff_append_own T.slT_39 rfl rfl (hown.push _) rfl (Rd_new (vs := [.int .u16 (((l.getD i 0).toNat % 32 * 64 + x : Nat) : Int)])) (by simp [oneCell]) (by omega) (by omega) (by simp; omega) ?_
                intro v' h'' hown' hfr _
                simp (disch := first | omega | assumption) only [C.pool_Units_gos, T.tv, ↓reduceIte, Nat.reduceEqDiff, reduceCtorEq, Nat.reduceLeDiff, Nat.reducePow, Int.reducePow, Int.reduceToNat, Nat.reduceAdd]
                exact fin i rfl v' h'' hown' hfr
        · have b1 : ((l.getD i 0).toNat / 16 = 14 → 0 < ((l.getD i 0).toNat : Int)) := by omega
          have b3 : ¬ (((l.getD i 0).toNat / 32 * 32 : Nat) : Int) = 192 := by omega
          by_cases a3 : (l.getD i 0).toNat / 16 = 14
          · have b1 : 0 < ((l.getD i 0).toNat : Int) := by omega
            have b2 : ¬ ((l.getD i 0).toNat : Int) < 128 := by omega
            have b4 : (((l.getD i 0).toNat / 16 * 16 : Nat) : Int) = 224 := by omega
            simp (disch := first | omega | assumption) only [C.pool_Units_gos, T.tv, ↓reduceIte, Nat.reduceEqDiff, reduceCtorEq, Nat.reduceLeDiff, Nat.reducePow, Int.reducePow, Int.reduceToNat, Nat.reduceAdd, hcell, hlt', b1, b2, and_224, and_240, b3, b4]
            refine eff_call_of  ?_
            simp (disch := first | omega | assumption) only [C.pool_Units_gos, T.tv, ↓reduceIte, Nat.reduceEqDiff, reduceCtorEq, Nat.reduceLeDiff, Nat.reducePow, Int.reducePow, Int.reduceToNat, Nat.reduceAdd]
            refine (more_any l ((i : Int) + 1) h.size hc (by omega) hcell).mono ?_
            rintro v h' ⟨rfl, rfl⟩
            rw [show ((i : Int) + 1).toNat = i + 1 by omega]
            cases hm : moreS l (i + 1) with
            | none =>
              rw [moreV_no hm]
              simp (disch := first | omega | assumption) only [C.pool_Units_gos, T.tv, ↓reduceIte, Nat.reduceEqDiff, reduceCtorEq, Nat.reduceLeDiff, Nat.reducePow, Int.reducePow, Int.reduceToNat, Nat.reduceAdd]
              refine eff_call_of  ?_
              simp (disch := first | omega | assumption) only [C.pool_Units_gos, T.tv, ↓reduceIte, Nat.reduceEqDiff, reduceCtorEq, Nat.reduceLeDiff, Nat.reducePow, Int.reducePow, Int.reduceToNat, Nat.reduceAdd]
              refine (more_any l ((i : Int) + 2) h.size h' (by omega) hcell).mono ?_
              rintro v h'' ⟨rfl, rfl⟩
              rw [show ((i : Int) + 2).toNat = i + 2 by omega]
              cases hm2 : moreS l (i + 2) with
              | none =>
                rw [moreV_no hm2]
                simp (disch := first | omega | assumption) only [C.pool_Units_gos, T.tv, ↓reduceIte, Nat.reduceEqDiff, reduceCtorEq, Nat.reduceLeDiff, Nat.reducePow, Int.reducePow, Int.reduceToNat, Nat.reduceAdd, and_15]
                rw [units_fail hS hlt (dec1_3x a3 hm)]
                exact ⟨(Ext.push _ _).trans hext, rfl⟩
              | some y =>
                rw [moreV_yes hm2]
                simp (disch := first | omega | assumption) only [C.pool_Units_gos, T.tv, ↓reduceIte, Nat.reduceEqDiff, reduceCtorEq, Nat.reduceLeDiff, Nat.reducePow, Int.reducePow, Int.reduceToNat, Nat.reduceAdd, and_15]
                rw [units_fail hS hlt (dec1_3x a3 hm)]
                exact ⟨(Ext.push _ _).trans hext, rfl⟩
            | some x =>
              obtain ⟨hx, hlx⟩ := moreS_lt hm
              rw [moreV_yes hm]
              simp (disch := first | omega | assumption) only [C.pool_Units_gos, T.tv, ↓reduceIte, Nat.reduceEqDiff, reduceCtorEq, Nat.reduceLeDiff, Nat.reducePow, Int.reducePow, Int.reduceToNat, Nat.reduceAdd]
              refine eff_call_of  ?_
              simp (disch := first | omega | assumption) only [C.pool_Units_gos, T.tv, ↓reduceIte, Nat.reduceEqDiff, reduceCtorEq, Nat.reduceLeDiff, Nat.reducePow, Int.reducePow, Int.reduceToNat, Nat.reduceAdd]
              refine (more_any l ((i : Int) + 2) h.size h' (by omega) hcell).mono ?_
              rintro v h'' ⟨rfl, rfl⟩
              rw [show ((i : Int) + 2).toNat = i + 2 by omega]
              cases hm2 : moreS l (i + 2) with
              | none =>
                rw [moreV_no hm2]
                simp (disch := first | omega | assumption) only [C.pool_Units_gos, T.tv, ↓reduceIte, Nat.reduceEqDiff, reduceCtorEq, Nat.reduceLeDiff, Nat.reducePow, Int.reducePow, Int.reduceToNat, Nat.reduceAdd, and_15]
                rw [units_fail hS hlt (dec1_3y a3 hm2)]
                exact ⟨(Ext.push _ _).trans hext, rfl⟩
              | some y =>
                obtain ⟨hy, hly⟩ := moreS_lt hm2
                rw [moreV_yes hm2]
                have e1 : (((l.getD i 0).toNat % 16 * 64 + x) * 64 + y) = (l.getD i 0).toNat % 16 * 4096 + x * 64 + y := by omega
                by_cases hu : (l.getD i 0).toNat % 16 * 4096 + x * 64 + y < 2048
                · have c1 : (((l.getD i 0).toNat % 16 * 4096 + x * 64 + y : Nat) : Int) < 2048 := by omega
                  simp (disch := first | omega | assumption) only [C.pool_Units_gos, T.tv, ↓reduceIte, Nat.reduceEqDiff, reduceCtorEq, Nat.reduceLeDiff, Nat.reducePow, Int.reducePow, Int.reduceToNat, Nat.reduceAdd, and_15, or_12, or_6, e1, c1]
                  rw [units_fail hS hlt (dec1_3f a3 hm hm2 hu)]
                  exact ⟨(Ext.push _ _).trans hext, rfl⟩
                · have c1 : ¬ (((l.getD i 0).toNat % 16 * 4096 + x * 64 + y : Nat) : Int) < 2048 := by omega
                  simp (disch := first | omega | assumption) only [C.pool_Units_gos, T.tv, ↓reduceIte, Nat.reduceEqDiff, reduceCtorEq, Nat.reduceLeDiff, Nat.reducePow, Int.reducePow, Int.reduceToNat, Nat.reduceAdd, and_15, or_12, or_6, e1, c1]
                  refine eff_lits T.slT_39 rfl rfl (by decide) ?_
                  simp (disch := first | omega | assumption) only [C.pool_Units_gos, T.tv, ↓reduceIte, Nat.reduceEqDiff, reduceCtorEq, Nat.reduceLeDiff, Nat.reducePow, Int.reducePow, Int.reduceToNat, Nat.reduceAdd]
                  refine eff_append_own T.slT_39 rfl rfl (hown.push _) rfl (Rd_new (vs := [.int .u16 (((l.getD i 0).toNat % 16 * 4096 + x * 64 + y : Nat) : Int)])) (by simp [oneCell]) (by omega) (by omega) (by simp; omega) ?_
                  intro v' h2 hown' hfr _
                  simp (disch := first | omega | assumption) only [C.pool_Units_gos, T.tv, ↓reduceIte, Nat.reduceEqDiff, reduceCtorEq, Nat.reduceLeDiff, Nat.reducePow, Int.reducePow, Int.reduceToNat, Nat.reduceAdd]
                  exact ⟨l.length - (i + 3), by omega, i + 3, us ++ [(l.getD i 0).toNat % 16 * 4096 + x * 64 + y], v', rfl, by omega, by simp; omega, by simp, by simpa using hown',
                    Ext.app (hext.trans (Ext.push _ _)) hfr (fun k hk => by have := (hown.lt k hk).1; simpa using this), units_step hS hlt (dec1_3 a3 hm hm2 hu)⟩
          · have b4 : ¬ (((l.getD i 0).toNat / 16 * 16 : Nat) : Int) = 224 := by omega
            by_cases c0 : 0 < ((l.getD i 0).toNat : Int)
            · have b2 : ¬ ((l.getD i 0).toNat : Int) < 128 := by omega
              simp (disch := first | omega | assumption) only [C.pool_Units_gos, T.tv, ↓reduceIte, Nat.reduceEqDiff, reduceCtorEq, Nat.reduceLeDiff, Nat.reducePow, Int.reducePow, Int.reduceToNat, Nat.reduceAdd, hcell, hlt', c0, b2, and_224, and_240, b3, b4]
              rw [units_fail hS hlt (dec1_0 a1 a2 a3)]
              exact ⟨(Ext.push _ _).trans hext, rfl⟩
            · simp (disch := first | omega | assumption) only [C.pool_Units_gos, T.tv, ↓reduceIte, Nat.reduceEqDiff, reduceCtorEq, Nat.reduceLeDiff, Nat.reducePow, Int.reducePow, Int.reduceToNat, Nat.reduceAdd, hcell, hlt', c0, and_224, and_240, b3, b4]
              rw [units_fail hS hlt (dec1_0 a1 a2 a3)]
              exact ⟨(Ext.push _ _).trans hext, rfl⟩
    · have hlt' : ¬ (i : Int) < l.length := by omega
      simp (disch := first | omega | assumption) only [C.pool_Units_gos, T.tv, ↓reduceIte, Nat.reduceEqDiff, reduceCtorEq, Nat.reduceLeDiff, Nat.reducePow, Int.reducePow, Int.reduceToNat, Nat.reduceAdd, hcell, hlt']
      rw [units_done hS hlt]
      exact ⟨(Ext.push _ _).trans hext, _, rfl, hown.mono (by omega)⟩
end Go.Proofs.Ytohkbpnblkkdgaa

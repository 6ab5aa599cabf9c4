/- Numbers as bytes, by the program and by the reference. -/
import Derived.Test.YtohkbpnblkkdgaaPa
import Derived.Test.YtohkbpnblkkdgaaCa
import Derived.Test.YtohkbpnblkkdgaaT
namespace Go.Proofs.Ytohkbpnblkkdgaa
open Go.Vc
set_option maxRecDepth 100000
set_option linter.unusedSimpArgs false
set_option linter.unusedVariables false

def bigS (x n : Nat) : List UInt8 := (List.range n).map fun k => UInt8.ofNat (x / 256 ^ (n - 1 - k) % 256)
theorem bigS_len {x n : Nat} : (bigS x n).length = n := by simp [bigS]
theorem bigS_succ {x n : Nat} : bigS x (n + 1) = UInt8.ofNat (x / 256 ^ n % 256) :: bigS x n := by
  unfold bigS
  rw [List.range_succ_eq_map, List.map_cons, List.map_map]
  congr 1
  apply List.map_congr_left
  intro k hk
  have := List.mem_range.1 hk
  simp only [Function.comp_apply]
  rw [show n + 1 - 1 - (k + 1) = n - 1 - k by omega]
def bigV (x n i : Nat) : List Value := (List.range n).map fun k => .int .u8 (if k < i then ((x / 256 ^ (n - 1 - k) % 256 : Nat) : Int) else 0)
theorem bigV_len {x n i : Nat} : (bigV x n i).length = n := by simp [bigV]
theorem bigV_all {x n : Nat} : bigV x n n = bytesV (bigS x n) := by
  unfold bigV bytesV bigS
  rw [List.map_map]
  apply List.map_congr_left
  intro k hk
  rw [if_pos (List.mem_range.1 hk)]
  show _ = Value.int .u8 (((UInt8.ofNat (x / 256 ^ (n - 1 - k) % 256)).toNat : Nat) : Int)
  rw [byte_nat (by omega)]
theorem bigV_zero {x n : Nat} : madeCells #[.int .u8 0] n = (bigV x n 0).toArray := by
  unfold madeCells bigV
  apply Array.ext
  · simp
  · intro i h1 h2; simp [Nat.mod_one]
theorem bigV_step {x n i : Nat} (hi : i < n) : (bigV x n i).toArray.setIfInBounds i (.int .u8 ((x / 256 ^ (n - 1 - i) % 256 : Nat) : Int)) = (bigV x n (i + 1)).toArray := by
  apply Array.ext
  · simp [bigV]
  · intro k h1 h2
    have hk : k < n := by simpa [bigV] using h2
    rw [Array.getElem_setIfInBounds (by simpa [bigV] using hk)]
    by_cases hki : i = k
    · subst hki; simp [bigV]
    · rw [if_neg hki]
      simp only [bigV, List.getElem_toArray, List.getElem_map, List.getElem_range]
      by_cases hlt : k < i
      · rw [if_pos hlt, if_pos (by omega)]
      · rw [if_neg hlt, if_neg (by omega)]
theorem wrap_u8_nat (m : Nat) : IntKind.u8.wrap (m : Int) = ((m % 256 : Nat) : Int) := by
  simp only [IntKind.wrap, IntKind.signed, IntKind.bits]
  first | (simp; done) | (simp; omega) | omega
theorem shr_big {x n i : Nat} (hn : n ≤ 8) (hi : i < n) : IntKind.u8.wrap ((x : Int).fdiv (2 ^ (8 * (n - 1 - i)))) = ((x / 256 ^ (n - 1 - i) % 256 : Nat) : Int) := by
  have h1 : (x : Int).fdiv (2 ^ (8 * (n - 1 - i))) = ((x / 256 ^ (n - 1 - i) : Nat) : Int) := by
    rw [Int.fdiv_eq_ediv_of_nonneg _ (by exact Int.le_of_lt (Int.pow_pos (by decide)))]
    rw [Int.natCast_ediv x (256 ^ (n - 1 - i))]
    congr 1
    rw [Int.pow_mul]; push_cast; rfl
  rw [h1, wrap_u8_nat]

theorem Rd_block {h : Heap} {b : Nat} {vs : List Value} {e : TypeId} {fz : Nat × Nat} (hb : h[b]? = some (.cells vs.toArray e fz)) : Rd h b 0 vs := by
  intro j v hv
  rw [Nat.zero_add, cellAt_of hb]; simpa using hv

theorem big_any (x n : Nat) (h : Heap) (hx : x < 18446744073709551616) (hn : n ≤ 8) : HCalls Try.prog 70 #[.int .u64 x, .int .i64 n] h fun v h' => Ext h h' ∧ v = str (bigS x n) := by
  refine C.pool_Big_calls (args := [.int .u64 x, .int .i64 n]) rfl ?_
  simp (disch := first | omega | assumption) only [C.pool_Big_gos, T.tv, ↓reduceIte, Nat.reduceEqDiff, reduceCtorEq, Nat.reduceLeDiff, Nat.reducePow, Int.reducePow, Int.reduceToNat, Nat.reduceAdd]
  refine eff_make T.slT_69 (k := .i64) (k' := .i64) (n := (n : Int)) rfl rfl (by omega) (by omega) (by omega) ?_
  rintro cs z i hi hz rfl
  have hzc : z.cells = #[.int .u8 0] := by
    obtain ⟨i', z', e1, e2, e3, _⟩ := zr_spec T.zr_5
    rw [hi] at e1; cases e1; rw [hz] at e2; cases e2; exact e3
  rw [hzc, Int.toNat_natCast, Nat.mul_one, bigV_zero (x := x)]
  simp (disch := first | omega | assumption) only [C.pool_Big_gos, T.tv, ↓reduceIte, Nat.reduceEqDiff, reduceCtorEq, Nat.reduceLeDiff, Nat.reducePow, Int.reducePow, Int.reduceToNat, Nat.reduceAdd]
  refine loop_intro [0, 1, 5, 10, 11] (fun m ρ hc => ∃ i : Nat, m = n - i ∧ i ≤ n ∧ ρ = [(0, .int .u64 x), (1, .int .i64 n), (5, .slice (some ⟨h.size, 0, none⟩) n n), (10, .int .i64 n), (11, .int .i64 i)] ∧
    Ext h hc ∧ hc[h.size]? = some (.cells (bigV x n i).toArray 5 (0, 0))) ?_ ?_
  · simp (disch := first | omega | assumption) only [C.pool_Big_gos, T.tv, ↓reduceIte, Nat.reduceEqDiff, reduceCtorEq, Nat.reduceLeDiff, Nat.reducePow, Int.reducePow, Int.reduceToNat, Nat.reduceAdd]
    exact ⟨_, 0, rfl, Nat.zero_le _, rfl, Ext.push _ _, by simp⟩
  · rintro m ρ hc ⟨i, rfl, hi', rfl, hx', hb⟩
    rcases Nat.lt_or_ge i n with hlt | hge
    · have hlt' : (i : Int) < n := by omega
      have hsh : (8 * ((n : Int) - 1 - (i : Int))).toNat = 8 * (n - 1 - i) := by omega
      have hif : (if 8 * (n - 1 - i) ≤ 64 then 8 * (n - 1 - i) else 64) = 8 * (n - 1 - i) := if_pos (by omega)
      have hsb := shr_big (x := x) hn hlt
      simp (disch := first | omega | assumption) only [C.pool_Big_gos, T.tv, ↓reduceIte, Nat.reduceEqDiff, reduceCtorEq, Nat.reduceLeDiff, Nat.reducePow, Int.reducePow, Int.reduceToNat, Nat.reduceAdd, hlt', hsh, hif, hsb]
      refine eff_store1_z T.zr_5 rfl rfl rfl rfl rfl (u := (bigV x n i).getD i undef) ?_ ?_ ?_
      · rw [cellAt_of hb]; simp [bigV_len, hlt]
      · simp [frozenAt, hb]
      simp (disch := first | omega | assumption) only [C.pool_Big_gos, T.tv, ↓reduceIte, Nat.reduceEqDiff, reduceCtorEq, Nat.reduceLeDiff, Nat.reducePow, Int.reducePow, Int.reduceToNat, Nat.reduceAdd]
      refine ⟨n - (i + 1), by omega, i + 1, rfl, by omega, by simp, ?_, ?_⟩
      · exact Fr.trans hx' (Fr.set (S := fun k => k = h.size) _ _ _ fun _ => rfl) (fun _ _ h => h) fun k hk hS => by omega
      · rw [setAt_get hb, bigV_step hlt]
    · have hlt' : ¬ (i : Int) < n := by omega
      have hin : i = n := by omega
      subst hin
      rw [bigV_all] at hb
      simp (disch := first | omega | assumption) only [C.pool_Big_gos, T.tv, ↓reduceIte, Nat.reduceEqDiff, reduceCtorEq, Nat.reduceLeDiff, Nat.reducePow, Int.reducePow, Int.reduceToNat, Nat.reduceAdd, hlt', T.cvb_69_9 (Rd_block hb) bigS_len]
      exact hx'

theorem rbig_any (x n : Nat) (h : Heap) (hx : x < 18446744073709551616) (hn : n ≤ 8) : HCalls Try.prog 75 #[.int .u64 x, .int .i64 n] h fun v h' => Ext h h' ∧ v = str (bigS x n) := by
  refine C.ref1_Big_calls (args := [.int .u64 x, .int .i64 n]) rfl ?_
  simp (disch := first | omega | assumption) only [C.ref1_Big_gos, T.tv, ↓reduceIte, Nat.reduceEqDiff, reduceCtorEq, Nat.reduceLeDiff, Nat.reducePow, Int.reducePow, Int.reduceToNat, Nat.reduceAdd]
  refine loop_intro [0, 1, 5] (fun m ρ hc => ∃ i : Nat, m = n - i ∧ i ≤ n ∧ ρ = [(0, .int .u64 ((x / 256 ^ i : Nat) : Int)), (1, .int .i64 ((n - i : Nat) : Int)), (5, str (bigS x i))] ∧ Ext h hc) ?_ ?_
  · simp (disch := first | omega | assumption) only [C.ref1_Big_gos, T.tv, ↓reduceIte, Nat.reduceEqDiff, reduceCtorEq, Nat.reduceLeDiff, Nat.reducePow, Int.reducePow, Int.reduceToNat, Nat.reduceAdd]
    exact ⟨_, 0, rfl, Nat.zero_le _, by simp; rfl, Ext.refl _⟩
  · rintro m ρ hc ⟨i, rfl, hi', rfl, hx'⟩
    rcases Nat.lt_or_ge i n with hlt | hge
    · have hlt' : (0 : Int) < ((n - i : Nat) : Int) := by omega
      simp (disch := first | omega | assumption) only [C.ref1_Big_gos, T.tv, ↓reduceIte, Nat.reduceEqDiff, reduceCtorEq, Nat.reduceLeDiff, Nat.reducePow, Int.reducePow, Int.reduceToNat, Nat.reduceAdd, hlt']
      refine eff_lits T.slT_69 rfl rfl (by decide) ?_
      have hadd : [UInt8.ofNat (x / 256 ^ i % 256)].length + (bigS x i).length ≤ 9223372036854775807 := by simp [bigS_len]; omega
      have hq : IntKind.u64.wrap (((x / 256 ^ i : Nat) : Int).tdiv 256) = ((x / 256 ^ (i + 1) : Nat) : Int) := by
        have h1 : ((x / 256 ^ i : Nat) : Int).tdiv 256 = ((x / 256 ^ (i + 1) : Nat) : Int) := by
          rw [Nat.pow_succ, ← Nat.div_div_eq_div_mul]; rfl
        have h2 : x / 256 ^ (i + 1) ≤ x := Nat.div_le_self _ _
        rw [h1]
        generalize x / 256 ^ (i + 1) = y at h2
        rw [wrap_u64 (by omega) (by omega)]
      have hn1 : ((n - i : Nat) : Int) - 1 = ((n - (i + 1) : Nat) : Int) := by omega
      simp (disch := first | omega | assumption) only [C.ref1_Big_gos, T.tv, ↓reduceIte, Nat.reduceEqDiff, reduceCtorEq, Nat.reduceLeDiff, Nat.reducePow, Int.reducePow, Int.reduceToNat, Nat.reduceAdd, wrap_u8_nat, hadd, hq, hn1]
      exact ⟨n - (i + 1), by omega, i + 1, rfl, by omega, by rw [bigS_succ], hx'.trans (Ext.push _ _)⟩
    · have hlt' : ¬ (0 : Int) < ((n - i : Nat) : Int) := by omega
      have hin : i = n := by omega
      subst hin
      simp (disch := first | omega | assumption) only [C.ref1_Big_gos, T.tv, ↓reduceIte, Nat.reduceEqDiff, reduceCtorEq, Nat.reduceLeDiff, Nat.reducePow, Int.reducePow, Int.reduceToNat, Nat.reduceAdd, hlt']
      exact hx'
end Go.Proofs.Ytohkbpnblkkdgaa

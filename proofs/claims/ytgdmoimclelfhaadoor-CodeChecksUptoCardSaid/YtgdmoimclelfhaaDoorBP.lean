/- Numbers as bytes, plainly. -/
import Derived.Test.YtgdmoimclelfhaaDoorPa
import Derived.Test.YtgdmoimclelfhaaDoorT
namespace Go.Proofs.YtgdmoimclelfhaaDoor
open Go.Vc
set_option maxRecDepth 100000
set_option linter.unusedSimpArgs false
set_option linter.unusedVariables false

def bigS (x n : Nat) : List UInt8 := (List.range n).map fun k => UInt8.ofNat (x / 256 ^ (n - 1 - k) % 256)
theorem bigS_len {x n : Nat} : (bigS x n).length = n := by simp [bigS]
theorem bigS_succ {x n : Nat} : bigS x (n + 1) = UInt8.ofNat (x / 256 ^ n % 256) :: bigS x n := by
  unfold bigS
  rw [List.range_succ_eq_map, List.map_cons, List.map_map]
  congr 1
  apply List.map_congr_left
  intro k hk
  have := List.mem_range.1 hk
  simp only [Function.comp_apply]
  rw [show n + 1 - 1 - (k + 1) = n - 1 - k by omega]
def bigV (x n i : Nat) : List Value := (List.range n).map fun k => .int .u8 (if k < i then ((x / 256 ^ (n - 1 - k) % 256 : Nat) : Int) else 0)
theorem bigV_len {x n i : Nat} : (bigV x n i).length = n := by simp [bigV]
theorem bigV_all {x n : Nat} : bigV x n n = bytesV (bigS x n) := by
  unfold bigV bytesV bigS
  rw [List.map_map]
  apply List.map_congr_left
  intro k hk
  rw [if_pos (List.mem_range.1 hk)]
  show _ = Value.int .u8 (((UInt8.ofNat (x / 256 ^ (n - 1 - k) % 256)).toNat : Nat) : Int)
  rw [byte_nat (by omega)]
theorem bigV_zero {x n : Nat} : madeCells #[.int .u8 0] n = (bigV x n 0).toArray := by
  unfold madeCells bigV
  apply Array.ext
  · simp
  · intro i h1 h2; simp [Nat.mod_one]
theorem bigV_step {x n i : Nat} (hi : i < n) : (bigV x n i).toArray.setIfInBounds i (.int .u8 ((x / 256 ^ (n - 1 - i) % 256 : Nat) : Int)) = (bigV x n (i + 1)).toArray := by
  apply Array.ext
  · simp [bigV]
  · intro k h1 h2
    have hk : k < n := by simpa [bigV] using h2
    rw [Array.getElem_setIfInBounds (by simpa [bigV] using hk)]
    by_cases hki : i = k
    · subst hki; simp [bigV]
    · rw [if_neg hki]
      simp only [bigV, List.getElem_toArray, List.getElem_map, List.getElem_range]
      by_cases hlt : k < i
      · rw [if_pos hlt, if_pos (by omega)]
      · rw [if_neg hlt, if_neg (by omega)]
theorem wrap_u8_nat (m : Nat) : IntKind.u8.wrap (m : Int) = ((m % 256 : Nat) : Int) := by
  simp only [IntKind.wrap, IntKind.signed, IntKind.bits]
  first | (simp; done) | (simp; omega) | omega
theorem shr_big {x n i : Nat} (hn : n ≤ 8) (hi : i < n) : IntKind.u8.wrap ((x : Int).fdiv (2 ^ (8 * (n - 1 - i)))) = ((x / 256 ^ (n - 1 - i) % 256 : Nat) : Int) := by
  have h1 : (x : Int).fdiv (2 ^ (8 * (n - 1 - i))) = ((x / 256 ^ (n - 1 - i) : Nat) : Int) := by
    rw [Int.fdiv_eq_ediv_of_nonneg _ (by exact Int.le_of_lt (Int.pow_pos (by decide)))]
    rw [Int.natCast_ediv x (256 ^ (n - 1 - i))]
    congr 1
    rw [Int.pow_mul]; push_cast; rfl
  rw [h1, wrap_u8_nat]

theorem Rd_block {h : Heap} {b : Nat} {vs : List Value} {e : TypeId} {fz : Nat × Nat} (hb : h[b]? = some (.cells vs.toArray e fz)) : Rd h b 0 vs := by
  intro j v hv
  rw [Nat.zero_add, cellAt_of hb]; simpa using hv
end Go.Proofs.YtgdmoimclelfhaaDoor

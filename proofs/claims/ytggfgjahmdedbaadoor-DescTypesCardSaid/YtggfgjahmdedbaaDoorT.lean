/- Facts on the types of this seat's program, printed by a program. No condition. -/
import Derived.Test.YtggfgjahmdedbaaDoorProg
import Derived.Test.YtggfgjahmdedbaaDoorVcS
set_option maxRecDepth 100000
set_option linter.defProp false
namespace Go.Proofs.YtggfgjahmdedbaaDoor.T
open Go.Vc
theorem able_10 : callable Tryd.prog 10 = true := by kernel_rfl
theorem able_11 : callable Tryd.prog 11 = true := by kernel_rfl
theorem able_12 : callable Tryd.prog 12 = true := by kernel_rfl
theorem able_13 : callable Tryd.prog 13 = true := by kernel_rfl
theorem able_14 : callable Tryd.prog 14 = true := by kernel_rfl
theorem able_15 : callable Tryd.prog 15 = true := by kernel_rfl
theorem able_16 : callable Tryd.prog 16 = true := by kernel_rfl
theorem able_17 : callable Tryd.prog 17 = true := by kernel_rfl
theorem able_18 : callable Tryd.prog 18 = true := by kernel_rfl
theorem able_19 : callable Tryd.prog 19 = true := by kernel_rfl
theorem able_20 : callable Tryd.prog 20 = true := by kernel_rfl
theorem able_21 : callable Tryd.prog 21 = true := by kernel_rfl
theorem able_22 : callable Tryd.prog 22 = true := by kernel_rfl
theorem able_23 : callable Tryd.prog 23 = true := by kernel_rfl
theorem able_24 : callable Tryd.prog 24 = true := by kernel_rfl
theorem able_25 : callable Tryd.prog 25 = true := by kernel_rfl
theorem able_26 : callable Tryd.prog 26 = true := by kernel_rfl
theorem able_27 : callable Tryd.prog 27 = true := by kernel_rfl
theorem able_28 : callable Tryd.prog 28 = true := by kernel_rfl
theorem able_29 : callable Tryd.prog 29 = true := by kernel_rfl
theorem able_3 : callable Tryd.prog 3 = true := by kernel_rfl
theorem able_30 : callable Tryd.prog 30 = true := by kernel_rfl
theorem able_31 : callable Tryd.prog 31 = true := by kernel_rfl
theorem able_32 : callable Tryd.prog 32 = true := by kernel_rfl
theorem able_33 : callable Tryd.prog 33 = true := by kernel_rfl
theorem able_37 : callable Tryd.prog 37 = true := by kernel_rfl
theorem able_38 : callable Tryd.prog 38 = true := by kernel_rfl
theorem able_4 : callable Tryd.prog 4 = true := by kernel_rfl
theorem able_43 : callable Tryd.prog 43 = true := by kernel_rfl
theorem able_5 : callable Tryd.prog 5 = true := by kernel_rfl
theorem able_6 : callable Tryd.prog 6 = true := by kernel_rfl
theorem able_7 : callable Tryd.prog 7 = true := by kernel_rfl
theorem able_8 : callable Tryd.prog 8 = true := by kernel_rfl
theorem able_9 : callable Tryd.prog 9 = true := by kernel_rfl
theorem ag_38 : aggT Tryd.prog 38 256 = true := by kernel_rfl
theorem bb_eql_4 {x y : Operand} {a b : Bool} {h : Heap} : binE Tryd.prog .eql 4 x y (.bool a) (.bool b) h = some (.bool (decide (a = b))) := bin_bool_eql Tryd.underlying4
theorem bb_neq_4 {x y : Operand} {a b : Bool} {h : Heap} : binE Tryd.prog .neq 4 x y (.bool a) (.bool b) h = some (.bool (decide (a ≠ b))) := bin_bool_neq Tryd.underlying4
theorem cv_21_5 {k : IntKind} {n : Int} {h : Heap} : cvE Tryd.prog 21 5 (.int k n) h = some (.int .u8 (IntKind.u8.wrap n)) := cv_int Tryd.underlying21 Tryd.underlying5
theorem cv_5_21 {k : IntKind} {n : Int} {h : Heap} : cvE Tryd.prog 5 21 (.int k n) h = some (.int .i32 (IntKind.i32.wrap n)) := cv_int Tryd.underlying5 Tryd.underlying21
theorem ia_25 {b o n c : Nat} {k : IntKind} {i : Int} {h : Heap} (h0 : 0 ≤ i) (h1 : i < n) : iaE Tryd.prog 25 (.slice (some ⟨b, o, none⟩) n c) (.int k i) h = some (.pointer (some ⟨b, o + i.toNat * 1, none⟩)) := ia_of (by kernel_rfl) h0 h1
theorem ix_9 {l : List UInt8} {k : IntKind} {i : Int} {h : Heap} (h0 : 0 ≤ i) (h1 : i < l.length) : ixE Tryd.prog 9 (str l) (.int k i) h = some (.int .u8 ((l.getD i.toNat 0).toNat : Int)) := ix_str Tryd.underlying9 h0 h1
theorem ldc_3 {a : Addr} {h : Heap} : ld Tryd.prog 3 a h = cellAt h a := ld_cell (by kernel_rfl)
theorem ldc_4 {a : Addr} {h : Heap} : ld Tryd.prog 4 a h = cellAt h a := ld_cell (by kernel_rfl)
theorem ldc_9 {a : Addr} {h : Heap} : ld Tryd.prog 9 a h = cellAt h a := ld_cell (by kernel_rfl)
theorem len_25 {ty : TypeId} {a : Option Addr} {n c : Nat} {h : Heap} : lenE Tryd.prog 25 ty (.slice a n c) h = some (.int .i64 n) := len_slice Tryd.underlying25
theorem len_9 {ty : TypeId} {l : List UInt8} {h : Heap} : lenE Tryd.prog 9 ty (str l) h = some (.int .i64 l.length) := len_str Tryd.underlying9
theorem slT_25 : slT Tryd.prog 25 9 1 16 = true := by kernel_rfl
theorem slb_9 {l : List UInt8} {k k' : IntKind} {a b : Int} {h : Heap} (h0 : 0 ≤ a) (h1 : a ≤ b) (h2 : b ≤ l.length) : slE Tryd.prog 9 (str l) (some (.int k a)) (some (.int k' b)) none h = some (str ((l.take b.toNat).drop a.toNat)) := sl_str_lh Tryd.underlying9 h0 h1 h2
theorem slh_9 {l : List UInt8} {k : IntKind} {b : Int} {h : Heap} (h0 : 0 ≤ b) (h2 : b ≤ l.length) : slE Tryd.prog 9 (str l) none (some (.int k b)) none h = some (str (l.take b.toNat)) := sl_str_h Tryd.underlying9 h0 h2
theorem sll_9 {l : List UInt8} {k : IntKind} {a : Int} {h : Heap} (h0 : 0 ≤ a) (h2 : a ≤ l.length) : slE Tryd.prog 9 (str l) (some (.int k a)) none none h = some (str (l.drop a.toNat)) := sl_str_l Tryd.underlying9 h0 h2
theorem slzb_25 {a : Option Addr} {n c : Nat} {k k' : IntKind} {lo hi : Int} {h : Heap} (h0 : 0 ≤ lo) (h1 : lo ≤ hi) (h2 : hi ≤ c) : slE Tryd.prog 25 (.slice a n c) (some (.int k lo)) (some (.int k' hi)) none h = some (.slice (slA a c lo.toNat 1) (hi.toNat - lo.toNat) (c - lo.toNat)) := sl_sl_lh slT_25 h0 h1 h2
theorem slzh_25 {a : Option Addr} {n c : Nat} {k : IntKind} {hi : Int} {h : Heap} (h0 : 0 ≤ hi) (h1 : hi ≤ c) : slE Tryd.prog 25 (.slice a n c) none (some (.int k hi)) none h = some (.slice (slA a c 0 1) (hi.toNat - 0) (c - 0)) := sl_sl_h slT_25 h0 h1
theorem slzl_25 {a : Option Addr} {n c : Nat} {k : IntKind} {lo : Int} {h : Heap} (h0 : 0 ≤ lo) (h1 : lo ≤ n) : slE Tryd.prog 25 (.slice a n c) (some (.int k lo)) none none h = some (.slice (slA a c lo.toNat 1) (n - lo.toNat) (c - lo.toNat)) := sl_sl_l slT_25 h0 h1
theorem zr_4 : zrT Tryd.prog 4 #[.bool false] := by unfold zrT; kernel_rfl
theorem zr_9 : zrT Tryd.prog 9 #[str []] := by unfold zrT; kernel_rfl
def ts := And.intro @able_10 (And.intro @able_11 (And.intro @able_12 (And.intro @able_13 (And.intro @able_14 (And.intro @able_15 (And.intro @able_16 (And.intro @able_17 (And.intro @able_18 (And.intro @able_19 (And.intro @able_20 (And.intro @able_21 (And.intro @able_22 (And.intro @able_23 (And.intro @able_24 (And.intro @able_25 (And.intro @able_26 (And.intro @able_27 (And.intro @able_28 (And.intro @able_29 (And.intro @able_3 (And.intro @able_30 (And.intro @able_31 (And.intro @able_32 (And.intro @able_33 (And.intro @able_37 (And.intro @able_38 (And.intro @able_4 (And.intro @able_43 (And.intro @able_5 (And.intro @able_6 (And.intro @able_7 (And.intro @able_8 (And.intro @able_9 (And.intro @bb_eql_4 (And.intro @bb_neq_4 (And.intro @cv_21_5 (And.intro @cv_5_21 (And.intro @ia_25 (And.intro @ix_9 (And.intro @ldc_3 (And.intro @ldc_4 (And.intro @ldc_9 (And.intro @len_25 (And.intro @len_9 (And.intro @slb_9 (And.intro @slh_9 (And.intro @sll_9 (And.intro @slzb_25 (And.intro @slzh_25 (@slzl_25))))))))))))))))))))))))))))))))))))))))))))))))))
def tv := And.intro vs (And.intro Go.Vc.vk ts)
end Go.Proofs.YtggfgjahmdedbaaDoor.T

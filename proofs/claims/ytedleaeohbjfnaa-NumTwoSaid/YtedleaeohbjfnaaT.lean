/- Facts on the types of this seat's program, printed by a program. No condition. -/
import Derived.Test.YtedleaeohbjfnaaProg
import Derived.Test.YtedleaeohbjfnaaVcS
set_option maxRecDepth 100000
set_option linter.defProp false
namespace Go.Proofs.Ytedleaeohbjfnaa.T
open Go.Vc
theorem able_10 : callable Try.prog 10 = true := by kernel_rfl
theorem able_11 : callable Try.prog 11 = true := by kernel_rfl
theorem able_12 : callable Try.prog 12 = true := by kernel_rfl
theorem able_13 : callable Try.prog 13 = true := by kernel_rfl
theorem able_14 : callable Try.prog 14 = true := by kernel_rfl
theorem able_15 : callable Try.prog 15 = true := by kernel_rfl
theorem able_16 : callable Try.prog 16 = true := by kernel_rfl
theorem able_17 : callable Try.prog 17 = true := by kernel_rfl
theorem able_18 : callable Try.prog 18 = true := by kernel_rfl
theorem able_19 : callable Try.prog 19 = true := by kernel_rfl
theorem able_20 : callable Try.prog 20 = true := by kernel_rfl
theorem able_21 : callable Try.prog 21 = true := by kernel_rfl
theorem able_22 : callable Try.prog 22 = true := by kernel_rfl
theorem able_23 : callable Try.prog 23 = true := by kernel_rfl
theorem able_24 : callable Try.prog 24 = true := by kernel_rfl
theorem able_27 : callable Try.prog 27 = true := by kernel_rfl
theorem able_28 : callable Try.prog 28 = true := by kernel_rfl
theorem able_29 : callable Try.prog 29 = true := by kernel_rfl
theorem able_3 : callable Try.prog 3 = true := by kernel_rfl
theorem able_30 : callable Try.prog 30 = true := by kernel_rfl
theorem able_31 : callable Try.prog 31 = true := by kernel_rfl
theorem able_32 : callable Try.prog 32 = true := by kernel_rfl
theorem able_34 : callable Try.prog 34 = true := by kernel_rfl
theorem able_36 : callable Try.prog 36 = true := by kernel_rfl
theorem able_37 : callable Try.prog 37 = true := by kernel_rfl
theorem able_38 : callable Try.prog 38 = true := by kernel_rfl
theorem able_39 : callable Try.prog 39 = true := by kernel_rfl
theorem able_4 : callable Try.prog 4 = true := by kernel_rfl
theorem able_40 : callable Try.prog 40 = true := by kernel_rfl
theorem able_41 : callable Try.prog 41 = true := by kernel_rfl
theorem able_42 : callable Try.prog 42 = true := by kernel_rfl
theorem able_44 : callable Try.prog 44 = true := by kernel_rfl
theorem able_45 : callable Try.prog 45 = true := by kernel_rfl
theorem able_46 : callable Try.prog 46 = true := by kernel_rfl
theorem able_47 : callable Try.prog 47 = true := by kernel_rfl
theorem able_48 : callable Try.prog 48 = true := by kernel_rfl
theorem able_49 : callable Try.prog 49 = true := by kernel_rfl
theorem able_5 : callable Try.prog 5 = true := by kernel_rfl
theorem able_50 : callable Try.prog 50 = true := by kernel_rfl
theorem able_52 : callable Try.prog 52 = true := by kernel_rfl
theorem able_54 : callable Try.prog 54 = true := by kernel_rfl
theorem able_55 : callable Try.prog 55 = true := by kernel_rfl
theorem able_56 : callable Try.prog 56 = true := by kernel_rfl
theorem able_57 : callable Try.prog 57 = true := by kernel_rfl
theorem able_6 : callable Try.prog 6 = true := by kernel_rfl
theorem able_7 : callable Try.prog 7 = true := by kernel_rfl
theorem able_8 : callable Try.prog 8 = true := by kernel_rfl
theorem able_9 : callable Try.prog 9 = true := by kernel_rfl
theorem ag_35 : aggT Try.prog 35 2 = true := by kernel_rfl
theorem ag_52 : aggT Try.prog 52 5 = true := by kernel_rfl
theorem bb_eql_4 {x y : Operand} {a b : Bool} {h : Heap} : binE Try.prog .eql 4 x y (.bool a) (.bool b) h = some (.bool (decide (a = b))) := bin_bool_eql Try.underlying4
theorem bb_neq_4 {x y : Operand} {a b : Bool} {h : Heap} : binE Try.prog .neq 4 x y (.bool a) (.bool b) h = some (.bool (decide (a ≠ b))) := bin_bool_neq Try.underlying4
theorem bl_35_0_1 {n0 : Int} {n1 : Int} {h : Heap} : bldE Try.prog 35 [0, 1] [.int .i64 n0, .int .i64 n1] h = some (.agg #[.int .i64 n0, .int .i64 n1]) := bldE_of (by kernel_rfl)
theorem bl_52_2_3_4 {b2 : Bool} {n3 : Int} {n4 : Int} {h : Heap} : bldE Try.prog 52 [2, 3, 4] [.bool b2, .int .u64 n3, .int .i64 n4] h = some (.agg #[.bool false, .bool false, .bool b2, .int .u64 n3, .int .i64 n4]) := bldE_of (by kernel_rfl)
theorem cv_21_41 {k : IntKind} {n : Int} {h : Heap} : cvE Try.prog 21 41 (.int k n) h = some (.int .u32 (IntKind.u32.wrap n)) := cv_int Try.underlying21 Try.underlying41
theorem cv_22_2 {k : IntKind} {n : Int} {h : Heap} : cvE Try.prog 22 2 (.int k n) h = some (.int .i64 (IntKind.i64.wrap n)) := cv_int Try.underlying22 Try.underlying2
theorem cv_22_21 {k : IntKind} {n : Int} {h : Heap} : cvE Try.prog 22 21 (.int k n) h = some (.int .i32 (IntKind.i32.wrap n)) := cv_int Try.underlying22 Try.underlying21
theorem cv_22_3 {k : IntKind} {n : Int} {h : Heap} : cvE Try.prog 22 3 (.int k n) h = some (.int .i64 (IntKind.i64.wrap n)) := cv_int Try.underlying22 Try.underlying3
theorem cv_22_41 {k : IntKind} {n : Int} {h : Heap} : cvE Try.prog 22 41 (.int k n) h = some (.int .u32 (IntKind.u32.wrap n)) := cv_int Try.underlying22 Try.underlying41
theorem cv_2_22 {k : IntKind} {n : Int} {h : Heap} : cvE Try.prog 2 22 (.int k n) h = some (.int .u64 (IntKind.u64.wrap n)) := cv_int Try.underlying2 Try.underlying22
theorem cv_3_22 {k : IntKind} {n : Int} {h : Heap} : cvE Try.prog 3 22 (.int k n) h = some (.int .u64 (IntKind.u64.wrap n)) := cv_int Try.underlying3 Try.underlying22
theorem cv_41_22 {k : IntKind} {n : Int} {h : Heap} : cvE Try.prog 41 22 (.int k n) h = some (.int .u64 (IntKind.u64.wrap n)) := cv_int Try.underlying41 Try.underlying22
theorem cv_5_21 {k : IntKind} {n : Int} {h : Heap} : cvE Try.prog 5 21 (.int k n) h = some (.int .i32 (IntKind.i32.wrap n)) := cv_int Try.underlying5 Try.underlying21
theorem cv_5_3 {k : IntKind} {n : Int} {h : Heap} : cvE Try.prog 5 3 (.int k n) h = some (.int .i64 (IntKind.i64.wrap n)) := cv_int Try.underlying5 Try.underlying3
theorem fa_35_0 {b o : Nat} {h : Heap} : faE Try.prog 35 (.pointer (some ⟨b, o, none⟩)) 0 h = some (.pointer (some ⟨b, o, none⟩)) := fa_of (off := 0) (by kernel_rfl)
theorem fa_35_1 {b o : Nat} {h : Heap} : faE Try.prog 35 (.pointer (some ⟨b, o, none⟩)) 1 h = some (.pointer (some ⟨b, o + 1, none⟩)) := fa_of (off := 1) (by kernel_rfl)
theorem fa_52_0 {b o : Nat} {h : Heap} : faE Try.prog 52 (.pointer (some ⟨b, o, none⟩)) 0 h = some (.pointer (some ⟨b, o, none⟩)) := fa_of (off := 0) (by kernel_rfl)
theorem fa_52_1 {b o : Nat} {h : Heap} : faE Try.prog 52 (.pointer (some ⟨b, o, none⟩)) 1 h = some (.pointer (some ⟨b, o + 1, none⟩)) := fa_of (off := 1) (by kernel_rfl)
theorem fa_52_2 {b o : Nat} {h : Heap} : faE Try.prog 52 (.pointer (some ⟨b, o, none⟩)) 2 h = some (.pointer (some ⟨b, o + 2, none⟩)) := fa_of (off := 2) (by kernel_rfl)
theorem fa_52_3 {b o : Nat} {h : Heap} : faE Try.prog 52 (.pointer (some ⟨b, o, none⟩)) 3 h = some (.pointer (some ⟨b, o + 3, none⟩)) := fa_of (off := 3) (by kernel_rfl)
theorem fa_52_4 {b o : Nat} {h : Heap} : faE Try.prog 52 (.pointer (some ⟨b, o, none⟩)) 4 h = some (.pointer (some ⟨b, o + 4, none⟩)) := fa_of (off := 4) (by kernel_rfl)
theorem fd_52_0 {c0 c1 c2 c3 c4 : Value} {h : Heap} : fdE Try.prog 52 (.agg #[c0, c1, c2, c3, c4]) 0 h = some (c0) := fd_of (off := 0) (sz := 1) (agg := false) (by kernel_rfl)
theorem ldc_22 {a : Addr} {h : Heap} : ld Try.prog 22 a h = cellAt h a := ld_cell (by kernel_rfl)
theorem ldc_3 {a : Addr} {h : Heap} : ld Try.prog 3 a h = cellAt h a := ld_cell (by kernel_rfl)
theorem ldc_4 {a : Addr} {h : Heap} : ld Try.prog 4 a h = cellAt h a := ld_cell (by kernel_rfl)
theorem zr_22 : zrT Try.prog 22 #[.int .u64 0] := by unfold zrT; kernel_rfl
theorem zr_3 : zrT Try.prog 3 #[.int .i64 0] := by unfold zrT; kernel_rfl
theorem zr_35 : zrT Try.prog 35 #[.int .i64 0, .int .i64 0] := by unfold zrT; kernel_rfl
theorem zr_4 : zrT Try.prog 4 #[.bool false] := by unfold zrT; kernel_rfl
theorem zr_52 : zrT Try.prog 52 #[.bool false, .bool false, .bool false, .int .u64 0, .int .i64 0] := by unfold zrT; kernel_rfl
def ts := And.intro @able_10 (And.intro @able_11 (And.intro @able_12 (And.intro @able_13 (And.intro @able_14 (And.intro @able_15 (And.intro @able_16 (And.intro @able_17 (And.intro @able_18 (And.intro @able_19 (And.intro @able_20 (And.intro @able_21 (And.intro @able_22 (And.intro @able_23 (And.intro @able_24 (And.intro @able_27 (And.intro @able_28 (And.intro @able_29 (And.intro @able_3 (And.intro @able_30 (And.intro @able_31 (And.intro @able_32 (And.intro @able_34 (And.intro @able_36 (And.intro @able_37 (And.intro @able_38 (And.intro @able_39 (And.intro @able_4 (And.intro @able_40 (And.intro @able_41 (And.intro @able_42 (And.intro @able_44 (And.intro @able_45 (And.intro @able_46 (And.intro @able_47 (And.intro @able_48 (And.intro @able_49 (And.intro @able_5 (And.intro @able_50 (And.intro @able_52 (And.intro @able_54 (And.intro @able_55 (And.intro @able_56 (And.intro @able_57 (And.intro @able_6 (And.intro @able_7 (And.intro @able_8 (And.intro @able_9 (And.intro @bb_eql_4 (And.intro @bb_neq_4 (And.intro @bl_35_0_1 (And.intro @bl_52_2_3_4 (And.intro @cv_21_41 (And.intro @cv_22_2 (And.intro @cv_22_21 (And.intro @cv_22_3 (And.intro @cv_22_41 (And.intro @cv_2_22 (And.intro @cv_3_22 (And.intro @cv_41_22 (And.intro @cv_5_21 (And.intro @cv_5_3 (And.intro @fa_35_0 (And.intro @fa_35_1 (And.intro @fa_52_0 (And.intro @fa_52_1 (And.intro @fa_52_2 (And.intro @fa_52_3 (And.intro @fa_52_4 (And.intro @fd_52_0 (And.intro @ldc_22 (And.intro @ldc_3 (@ldc_4))))))))))))))))))))))))))))))))))))))))))))))))))))))))))))))))))))))))
def tv := And.intro vs (And.intro Go.Vc.vk ts)
end Go.Proofs.Ytedleaeohbjfnaa.T

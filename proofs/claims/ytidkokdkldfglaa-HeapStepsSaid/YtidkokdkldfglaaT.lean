/- Facts on the types of this seat's program, printed by a program. No condition. -/
import Derived.Test.YtidkokdkldfglaaProg
import Derived.Test.YtidkokdkldfglaaVcS
set_option maxRecDepth 100000
set_option linter.defProp false
namespace Go.Proofs.Ytidkokdkldfglaa.T
open Go.Vc
theorem able_10 : callable Try.prog 10 = true := by kernel_rfl
theorem able_11 : callable Try.prog 11 = true := by kernel_rfl
theorem able_12 : callable Try.prog 12 = true := by kernel_rfl
theorem able_13 : callable Try.prog 13 = true := by kernel_rfl
theorem able_14 : callable Try.prog 14 = true := by kernel_rfl
theorem able_15 : callable Try.prog 15 = true := by kernel_rfl
theorem able_16 : callable Try.prog 16 = true := by kernel_rfl
theorem able_17 : callable Try.prog 17 = true := by kernel_rfl
theorem able_18 : callable Try.prog 18 = true := by kernel_rfl
theorem able_19 : callable Try.prog 19 = true := by kernel_rfl
theorem able_20 : callable Try.prog 20 = true := by kernel_rfl
theorem able_21 : callable Try.prog 21 = true := by kernel_rfl
theorem able_22 : callable Try.prog 22 = true := by kernel_rfl
theorem able_23 : callable Try.prog 23 = true := by kernel_rfl
theorem able_24 : callable Try.prog 24 = true := by kernel_rfl
theorem able_25 : callable Try.prog 25 = true := by kernel_rfl
theorem able_26 : callable Try.prog 26 = true := by kernel_rfl
theorem able_27 : callable Try.prog 27 = true := by kernel_rfl
theorem able_28 : callable Try.prog 28 = true := by kernel_rfl
theorem able_29 : callable Try.prog 29 = true := by kernel_rfl
theorem able_3 : callable Try.prog 3 = true := by kernel_rfl
theorem able_30 : callable Try.prog 30 = true := by kernel_rfl
theorem able_31 : callable Try.prog 31 = true := by kernel_rfl
theorem able_32 : callable Try.prog 32 = true := by kernel_rfl
theorem able_33 : callable Try.prog 33 = true := by kernel_rfl
theorem able_34 : callable Try.prog 34 = true := by kernel_rfl
theorem able_35 : callable Try.prog 35 = true := by kernel_rfl
theorem able_36 : callable Try.prog 36 = true := by kernel_rfl
theorem able_37 : callable Try.prog 37 = true := by kernel_rfl
theorem able_38 : callable Try.prog 38 = true := by kernel_rfl
theorem able_39 : callable Try.prog 39 = true := by kernel_rfl
theorem able_4 : callable Try.prog 4 = true := by kernel_rfl
theorem able_40 : callable Try.prog 40 = true := by kernel_rfl
theorem able_41 : callable Try.prog 41 = true := by kernel_rfl
theorem able_42 : callable Try.prog 42 = true := by kernel_rfl
theorem able_43 : callable Try.prog 43 = true := by kernel_rfl
theorem able_44 : callable Try.prog 44 = true := by kernel_rfl
theorem able_45 : callable Try.prog 45 = true := by kernel_rfl
theorem able_46 : callable Try.prog 46 = true := by kernel_rfl
theorem able_47 : callable Try.prog 47 = true := by kernel_rfl
theorem able_48 : callable Try.prog 48 = true := by kernel_rfl
theorem able_49 : callable Try.prog 49 = true := by kernel_rfl
theorem able_5 : callable Try.prog 5 = true := by kernel_rfl
theorem able_50 : callable Try.prog 50 = true := by kernel_rfl
theorem able_51 : callable Try.prog 51 = true := by kernel_rfl
theorem able_52 : callable Try.prog 52 = true := by kernel_rfl
theorem able_6 : callable Try.prog 6 = true := by kernel_rfl
theorem able_68 : callable Try.prog 68 = true := by kernel_rfl
theorem able_7 : callable Try.prog 7 = true := by kernel_rfl
theorem able_8 : callable Try.prog 8 = true := by kernel_rfl
theorem able_9 : callable Try.prog 9 = true := by kernel_rfl
theorem ag_32 : aggT Try.prog 32 5 = true := by kernel_rfl
theorem ag_65 : aggT Try.prog 65 3 = true := by kernel_rfl
theorem ag_85 : aggT Try.prog 85 7 = true := by kernel_rfl
theorem bb_eql_4 {x y : Operand} {a b : Bool} {h : Heap} : binE Try.prog .eql 4 x y (.bool a) (.bool b) h = some (.bool (decide (a = b))) := bin_bool_eql Try.underlying4
theorem bl_29_0_1 {p0 : Option Addr} {p1 : Option Addr} {h : Heap} : bldE Try.prog 29 [0, 1] [.pointer p0, .pointer p1] h = some (.agg #[.pointer p0, .pointer p1]) := bldE_of (by kernel_rfl)
theorem bl_61_0_1_2 {a0 : Option Addr} {n0 c0 : Nat} {a1 : Option Addr} {n1 c1 : Nat} {n2 : Int} {h : Heap} : bldE Try.prog 61 [0, 1, 2] [.slice a0 n0 c0, .slice a1 n1 c1, .int .i64 n2] h = some (.agg #[.slice a0 n0 c0, .slice a1 n1 c1, .int .i64 n2, .int .i64 0]) := bldE_of (by kernel_rfl)
theorem bl_65  {h : Heap} : bldE Try.prog 65 [] [] h = some (.agg #[.slice none 0 0, .slice none 0 0, .bool false]) := bldE_of (by kernel_rfl)
theorem bl_65_0_1 {a0 : Option Addr} {n0 c0 : Nat} {a1 : Option Addr} {n1 c1 : Nat} {h : Heap} : bldE Try.prog 65 [0, 1] [.slice a0 n0 c0, .slice a1 n1 c1] h = some (.agg #[.slice a0 n0 c0, .slice a1 n1 c1, .bool false]) := bldE_of (by kernel_rfl)
theorem bl_65_2 {b2 : Bool} {h : Heap} : bldE Try.prog 65 [2] [.bool b2] h = some (.agg #[.slice none 0 0, .slice none 0 0, .bool b2]) := bldE_of (by kernel_rfl)
theorem bl_70_0_1_4_5 {a0 : Option Addr} {n0 c0 : Nat} {a1 : Option Addr} {n1 c1 : Nat} {n4 : Int} {n5 : Int} {h : Heap} : bldE Try.prog 70 [0, 1, 4, 5] [.slice a0 n0 c0, .slice a1 n1 c1, .int .i64 n4, .int .i64 n5] h = some (.agg #[.slice a0 n0 c0, .slice a1 n1 c1, .int .i64 0, .int .i64 0, .int .i64 n4, .int .i64 n5, .slice none 0 0]) := bldE_of (by kernel_rfl)
theorem bl_85_0_1_2_3_4 {n0 : Int} {n1 : Int} {n2 : Int} {a3 : Option Addr} {n3 c3 : Nat} {a4 : Option Addr} {n4 c4 : Nat} {h : Heap} : bldE Try.prog 85 [0, 1, 2, 3, 4] [.int .i64 n0, .int .i64 n1, .int .i64 n2, .slice a3 n3 c3, .slice a4 n4 c4] h = some (.agg #[.int .i64 n0, .int .i64 n1, .int .i64 n2, .slice a3 n3 c3, .slice a4 n4 c4, .int .u32 0, .bool false]) := bldE_of (by kernel_rfl)
theorem bl_85_0_3_4 {n0 : Int} {a3 : Option Addr} {n3 c3 : Nat} {a4 : Option Addr} {n4 c4 : Nat} {h : Heap} : bldE Try.prog 85 [0, 3, 4] [.int .i64 n0, .slice a3 n3 c3, .slice a4 n4 c4] h = some (.agg #[.int .i64 n0, .int .i64 0, .int .i64 0, .slice a3 n3 c3, .slice a4 n4 c4, .int .u32 0, .bool false]) := bldE_of (by kernel_rfl)
theorem cv_3_51 {k : IntKind} {n : Int} {h : Heap} : cvE Try.prog 3 51 (.int k n) h = some (.int .u32 (IntKind.u32.wrap n)) := cv_int Try.underlying3 Try.underlying51
theorem fa_29_0 {b o : Nat} {h : Heap} : faE Try.prog 29 (.pointer (some ⟨b, o, none⟩)) 0 h = some (.pointer (some ⟨b, o, none⟩)) := fa_of (off := 0) (by kernel_rfl)
theorem fa_29_1 {b o : Nat} {h : Heap} : faE Try.prog 29 (.pointer (some ⟨b, o, none⟩)) 1 h = some (.pointer (some ⟨b, o + 1, none⟩)) := fa_of (off := 1) (by kernel_rfl)
theorem fa_32_0 {b o : Nat} {h : Heap} : faE Try.prog 32 (.pointer (some ⟨b, o, none⟩)) 0 h = some (.pointer (some ⟨b, o, none⟩)) := fa_of (off := 0) (by kernel_rfl)
theorem fa_32_1 {b o : Nat} {h : Heap} : faE Try.prog 32 (.pointer (some ⟨b, o, none⟩)) 1 h = some (.pointer (some ⟨b, o + 1, none⟩)) := fa_of (off := 1) (by kernel_rfl)
theorem fa_32_2 {b o : Nat} {h : Heap} : faE Try.prog 32 (.pointer (some ⟨b, o, none⟩)) 2 h = some (.pointer (some ⟨b, o + 2, none⟩)) := fa_of (off := 2) (by kernel_rfl)
theorem fa_32_3 {b o : Nat} {h : Heap} : faE Try.prog 32 (.pointer (some ⟨b, o, none⟩)) 3 h = some (.pointer (some ⟨b, o + 3, none⟩)) := fa_of (off := 3) (by kernel_rfl)
theorem fa_32_4 {b o : Nat} {h : Heap} : faE Try.prog 32 (.pointer (some ⟨b, o, none⟩)) 4 h = some (.pointer (some ⟨b, o + 4, none⟩)) := fa_of (off := 4) (by kernel_rfl)
theorem fa_54_0 {b o : Nat} {h : Heap} : faE Try.prog 54 (.pointer (some ⟨b, o, none⟩)) 0 h = some (.pointer (some ⟨b, o, none⟩)) := fa_of (off := 0) (by kernel_rfl)
theorem fa_54_1 {b o : Nat} {h : Heap} : faE Try.prog 54 (.pointer (some ⟨b, o, none⟩)) 1 h = some (.pointer (some ⟨b, o + 1, none⟩)) := fa_of (off := 1) (by kernel_rfl)
theorem fa_61_0 {b o : Nat} {h : Heap} : faE Try.prog 61 (.pointer (some ⟨b, o, none⟩)) 0 h = some (.pointer (some ⟨b, o, none⟩)) := fa_of (off := 0) (by kernel_rfl)
theorem fa_61_1 {b o : Nat} {h : Heap} : faE Try.prog 61 (.pointer (some ⟨b, o, none⟩)) 1 h = some (.pointer (some ⟨b, o + 1, none⟩)) := fa_of (off := 1) (by kernel_rfl)
theorem fa_61_2 {b o : Nat} {h : Heap} : faE Try.prog 61 (.pointer (some ⟨b, o, none⟩)) 2 h = some (.pointer (some ⟨b, o + 2, none⟩)) := fa_of (off := 2) (by kernel_rfl)
theorem fa_61_3 {b o : Nat} {h : Heap} : faE Try.prog 61 (.pointer (some ⟨b, o, none⟩)) 3 h = some (.pointer (some ⟨b, o + 3, none⟩)) := fa_of (off := 3) (by kernel_rfl)
theorem fa_65_0 {b o : Nat} {h : Heap} : faE Try.prog 65 (.pointer (some ⟨b, o, none⟩)) 0 h = some (.pointer (some ⟨b, o, none⟩)) := fa_of (off := 0) (by kernel_rfl)
theorem fa_65_1 {b o : Nat} {h : Heap} : faE Try.prog 65 (.pointer (some ⟨b, o, none⟩)) 1 h = some (.pointer (some ⟨b, o + 1, none⟩)) := fa_of (off := 1) (by kernel_rfl)
theorem fa_70_0 {b o : Nat} {h : Heap} : faE Try.prog 70 (.pointer (some ⟨b, o, none⟩)) 0 h = some (.pointer (some ⟨b, o, none⟩)) := fa_of (off := 0) (by kernel_rfl)
theorem fa_70_1 {b o : Nat} {h : Heap} : faE Try.prog 70 (.pointer (some ⟨b, o, none⟩)) 1 h = some (.pointer (some ⟨b, o + 1, none⟩)) := fa_of (off := 1) (by kernel_rfl)
theorem fa_70_2 {b o : Nat} {h : Heap} : faE Try.prog 70 (.pointer (some ⟨b, o, none⟩)) 2 h = some (.pointer (some ⟨b, o + 2, none⟩)) := fa_of (off := 2) (by kernel_rfl)
theorem fa_70_3 {b o : Nat} {h : Heap} : faE Try.prog 70 (.pointer (some ⟨b, o, none⟩)) 3 h = some (.pointer (some ⟨b, o + 3, none⟩)) := fa_of (off := 3) (by kernel_rfl)
theorem fa_70_4 {b o : Nat} {h : Heap} : faE Try.prog 70 (.pointer (some ⟨b, o, none⟩)) 4 h = some (.pointer (some ⟨b, o + 4, none⟩)) := fa_of (off := 4) (by kernel_rfl)
theorem fa_70_5 {b o : Nat} {h : Heap} : faE Try.prog 70 (.pointer (some ⟨b, o, none⟩)) 5 h = some (.pointer (some ⟨b, o + 5, none⟩)) := fa_of (off := 5) (by kernel_rfl)
theorem fa_70_6 {b o : Nat} {h : Heap} : faE Try.prog 70 (.pointer (some ⟨b, o, none⟩)) 6 h = some (.pointer (some ⟨b, o + 6, none⟩)) := fa_of (off := 6) (by kernel_rfl)
theorem fa_85_0 {b o : Nat} {h : Heap} : faE Try.prog 85 (.pointer (some ⟨b, o, none⟩)) 0 h = some (.pointer (some ⟨b, o, none⟩)) := fa_of (off := 0) (by kernel_rfl)
theorem fa_85_1 {b o : Nat} {h : Heap} : faE Try.prog 85 (.pointer (some ⟨b, o, none⟩)) 1 h = some (.pointer (some ⟨b, o + 1, none⟩)) := fa_of (off := 1) (by kernel_rfl)
theorem fa_85_2 {b o : Nat} {h : Heap} : faE Try.prog 85 (.pointer (some ⟨b, o, none⟩)) 2 h = some (.pointer (some ⟨b, o + 2, none⟩)) := fa_of (off := 2) (by kernel_rfl)
theorem fa_85_3 {b o : Nat} {h : Heap} : faE Try.prog 85 (.pointer (some ⟨b, o, none⟩)) 3 h = some (.pointer (some ⟨b, o + 3, none⟩)) := fa_of (off := 3) (by kernel_rfl)
theorem fa_85_4 {b o : Nat} {h : Heap} : faE Try.prog 85 (.pointer (some ⟨b, o, none⟩)) 4 h = some (.pointer (some ⟨b, o + 4, none⟩)) := fa_of (off := 4) (by kernel_rfl)
theorem fa_85_5 {b o : Nat} {h : Heap} : faE Try.prog 85 (.pointer (some ⟨b, o, none⟩)) 5 h = some (.pointer (some ⟨b, o + 5, none⟩)) := fa_of (off := 5) (by kernel_rfl)
theorem fa_85_6 {b o : Nat} {h : Heap} : faE Try.prog 85 (.pointer (some ⟨b, o, none⟩)) 6 h = some (.pointer (some ⟨b, o + 6, none⟩)) := fa_of (off := 6) (by kernel_rfl)
theorem ia_22 {b o n c : Nat} {k : IntKind} {i : Int} {h : Heap} (h0 : 0 ≤ i) (h1 : i < n) : iaE Try.prog 22 (.slice (some ⟨b, o, none⟩) n c) (.int k i) h = some (.pointer (some ⟨b, o + i.toNat * 5, none⟩)) := ia_of (by kernel_rfl) h0 h1
theorem ia_56 {b o n c : Nat} {k : IntKind} {i : Int} {h : Heap} (h0 : 0 ≤ i) (h1 : i < n) : iaE Try.prog 56 (.slice (some ⟨b, o, none⟩) n c) (.int k i) h = some (.pointer (some ⟨b, o + i.toNat * 1, none⟩)) := ia_of (by kernel_rfl) h0 h1
theorem ia_58 {b o n c : Nat} {k : IntKind} {i : Int} {h : Heap} (h0 : 0 ≤ i) (h1 : i < n) : iaE Try.prog 58 (.slice (some ⟨b, o, none⟩) n c) (.int k i) h = some (.pointer (some ⟨b, o + i.toNat * 3, none⟩)) := ia_of (by kernel_rfl) h0 h1
theorem ia_59 {b o n c : Nat} {k : IntKind} {i : Int} {h : Heap} (h0 : 0 ≤ i) (h1 : i < n) : iaE Try.prog 59 (.slice (some ⟨b, o, none⟩) n c) (.int k i) h = some (.pointer (some ⟨b, o + i.toNat * 1, none⟩)) := ia_of (by kernel_rfl) h0 h1
theorem ia_63 {b o n c : Nat} {k : IntKind} {i : Int} {h : Heap} (h0 : 0 ≤ i) (h1 : i < n) : iaE Try.prog 63 (.slice (some ⟨b, o, none⟩) n c) (.int k i) h = some (.pointer (some ⟨b, o + i.toNat * 1, none⟩)) := ia_of (by kernel_rfl) h0 h1
theorem ia_67 {b o n c : Nat} {k : IntKind} {i : Int} {h : Heap} (h0 : 0 ≤ i) (h1 : i < n) : iaE Try.prog 67 (.slice (some ⟨b, o, none⟩) n c) (.int k i) h = some (.pointer (some ⟨b, o + i.toNat * 7, none⟩)) := ia_of (by kernel_rfl) h0 h1
theorem ia_68 {b o n c : Nat} {k : IntKind} {i : Int} {h : Heap} (h0 : 0 ≤ i) (h1 : i < n) : iaE Try.prog 68 (.slice (some ⟨b, o, none⟩) n c) (.int k i) h = some (.pointer (some ⟨b, o + i.toNat * 1, none⟩)) := ia_of (by kernel_rfl) h0 h1
theorem ldc_26 {a : Addr} {h : Heap} : ld Try.prog 26 a h = cellAt h a := ld_cell (by kernel_rfl)
theorem ldc_27 {a : Addr} {h : Heap} : ld Try.prog 27 a h = cellAt h a := ld_cell (by kernel_rfl)
theorem ldc_3 {a : Addr} {h : Heap} : ld Try.prog 3 a h = cellAt h a := ld_cell (by kernel_rfl)
theorem ldc_30 {a : Addr} {h : Heap} : ld Try.prog 30 a h = cellAt h a := ld_cell (by kernel_rfl)
theorem ldc_4 {a : Addr} {h : Heap} : ld Try.prog 4 a h = cellAt h a := ld_cell (by kernel_rfl)
theorem ldc_49 {a : Addr} {h : Heap} : ld Try.prog 49 a h = cellAt h a := ld_cell (by kernel_rfl)
theorem ldc_51 {a : Addr} {h : Heap} : ld Try.prog 51 a h = cellAt h a := ld_cell (by kernel_rfl)
theorem ldc_58 {a : Addr} {h : Heap} : ld Try.prog 58 a h = cellAt h a := ld_cell (by kernel_rfl)
theorem ldc_59 {a : Addr} {h : Heap} : ld Try.prog 59 a h = cellAt h a := ld_cell (by kernel_rfl)
theorem ldc_63 {a : Addr} {h : Heap} : ld Try.prog 63 a h = cellAt h a := ld_cell (by kernel_rfl)
theorem ldc_67 {a : Addr} {h : Heap} : ld Try.prog 67 a h = cellAt h a := ld_cell (by kernel_rfl)
theorem ldc_68 {a : Addr} {h : Heap} : ld Try.prog 68 a h = cellAt h a := ld_cell (by kernel_rfl)
theorem len_22 {ty : TypeId} {a : Option Addr} {n c : Nat} {h : Heap} : lenE Try.prog 22 ty (.slice a n c) h = some (.int .i64 n) := len_slice Try.underlying22
theorem len_58 {ty : TypeId} {a : Option Addr} {n c : Nat} {h : Heap} : lenE Try.prog 58 ty (.slice a n c) h = some (.int .i64 n) := len_slice Try.underlying58
theorem len_59 {ty : TypeId} {a : Option Addr} {n c : Nat} {h : Heap} : lenE Try.prog 59 ty (.slice a n c) h = some (.int .i64 n) := len_slice Try.underlying59
theorem len_63 {ty : TypeId} {a : Option Addr} {n c : Nat} {h : Heap} : lenE Try.prog 63 ty (.slice a n c) h = some (.int .i64 n) := len_slice Try.underlying63
theorem len_67 {ty : TypeId} {a : Option Addr} {n c : Nat} {h : Heap} : lenE Try.prog 67 ty (.slice a n c) h = some (.int .i64 n) := len_slice Try.underlying67
theorem len_68 {ty : TypeId} {a : Option Addr} {n c : Nat} {h : Heap} : lenE Try.prog 68 ty (.slice a n c) h = some (.int .i64 n) := len_slice Try.underlying68
theorem slT_56 : slT Try.prog 56 4 1 1 = true := by kernel_rfl
theorem slT_58 : slT Try.prog 58 65 3 56 = true := by kernel_rfl
theorem slT_59 : slT Try.prog 59 3 1 8 = true := by kernel_rfl
theorem slT_63 : slT Try.prog 63 30 1 8 = true := by kernel_rfl
theorem slT_67 : slT Try.prog 67 85 7 80 = true := by kernel_rfl
theorem slT_68 : slT Try.prog 68 51 1 4 = true := by kernel_rfl
theorem slzb_59 {a : Option Addr} {n c : Nat} {k k' : IntKind} {lo hi : Int} {h : Heap} (h0 : 0 ≤ lo) (h1 : lo ≤ hi) (h2 : hi ≤ c) : slE Try.prog 59 (.slice a n c) (some (.int k lo)) (some (.int k' hi)) none h = some (.slice (slA a c lo.toNat 1) (hi.toNat - lo.toNat) (c - lo.toNat)) := sl_sl_lh slT_59 h0 h1 h2
theorem slzb_67 {a : Option Addr} {n c : Nat} {k k' : IntKind} {lo hi : Int} {h : Heap} (h0 : 0 ≤ lo) (h1 : lo ≤ hi) (h2 : hi ≤ c) : slE Try.prog 67 (.slice a n c) (some (.int k lo)) (some (.int k' hi)) none h = some (.slice (slA a c lo.toNat 7) (hi.toNat - lo.toNat) (c - lo.toNat)) := sl_sl_lh slT_67 h0 h1 h2
theorem slzb_68 {a : Option Addr} {n c : Nat} {k k' : IntKind} {lo hi : Int} {h : Heap} (h0 : 0 ≤ lo) (h1 : lo ≤ hi) (h2 : hi ≤ c) : slE Try.prog 68 (.slice a n c) (some (.int k lo)) (some (.int k' hi)) none h = some (.slice (slA a c lo.toNat 1) (hi.toNat - lo.toNat) (c - lo.toNat)) := sl_sl_lh slT_68 h0 h1 h2
theorem slzh_59 {a : Option Addr} {n c : Nat} {k : IntKind} {hi : Int} {h : Heap} (h0 : 0 ≤ hi) (h1 : hi ≤ c) : slE Try.prog 59 (.slice a n c) none (some (.int k hi)) none h = some (.slice (slA a c 0 1) (hi.toNat - 0) (c - 0)) := sl_sl_h slT_59 h0 h1
theorem slzh_67 {a : Option Addr} {n c : Nat} {k : IntKind} {hi : Int} {h : Heap} (h0 : 0 ≤ hi) (h1 : hi ≤ c) : slE Try.prog 67 (.slice a n c) none (some (.int k hi)) none h = some (.slice (slA a c 0 7) (hi.toNat - 0) (c - 0)) := sl_sl_h slT_67 h0 h1
theorem slzh_68 {a : Option Addr} {n c : Nat} {k : IntKind} {hi : Int} {h : Heap} (h0 : 0 ≤ hi) (h1 : hi ≤ c) : slE Try.prog 68 (.slice a n c) none (some (.int k hi)) none h = some (.slice (slA a c 0 1) (hi.toNat - 0) (c - 0)) := sl_sl_h slT_68 h0 h1
theorem slzl_59 {a : Option Addr} {n c : Nat} {k : IntKind} {lo : Int} {h : Heap} (h0 : 0 ≤ lo) (h1 : lo ≤ n) : slE Try.prog 59 (.slice a n c) (some (.int k lo)) none none h = some (.slice (slA a c lo.toNat 1) (n - lo.toNat) (c - lo.toNat)) := sl_sl_l slT_59 h0 h1
theorem slzl_67 {a : Option Addr} {n c : Nat} {k : IntKind} {lo : Int} {h : Heap} (h0 : 0 ≤ lo) (h1 : lo ≤ n) : slE Try.prog 67 (.slice a n c) (some (.int k lo)) none none h = some (.slice (slA a c lo.toNat 7) (n - lo.toNat) (c - lo.toNat)) := sl_sl_l slT_67 h0 h1
theorem slzl_68 {a : Option Addr} {n c : Nat} {k : IntKind} {lo : Int} {h : Heap} (h0 : 0 ≤ lo) (h1 : lo ≤ n) : slE Try.prog 68 (.slice a n c) (some (.int k lo)) none none h = some (.slice (slA a c lo.toNat 1) (n - lo.toNat) (c - lo.toNat)) := sl_sl_l slT_68 h0 h1
theorem zr_3 : zrT Try.prog 3 #[.int .i64 0] := by unfold zrT; kernel_rfl
theorem zr_30 : zrT Try.prog 30 #[.int .u64 0] := by unfold zrT; kernel_rfl
theorem zr_32 : zrT Try.prog 32 #[.int .i64 0, .int .i64 0, .int .i64 0, .int .i64 0, .int .u64 0] := by unfold zrT; kernel_rfl
theorem zr_4 : zrT Try.prog 4 #[.bool false] := by unfold zrT; kernel_rfl
theorem zr_51 : zrT Try.prog 51 #[.int .u32 0] := by unfold zrT; kernel_rfl
theorem zr_58 : zrT Try.prog 58 #[.slice none 0 0] := by unfold zrT; kernel_rfl
theorem zr_65 : zrT Try.prog 65 #[.slice none 0 0, .slice none 0 0, .bool false] := by unfold zrT; kernel_rfl
theorem zr_67 : zrT Try.prog 67 #[.slice none 0 0] := by unfold zrT; kernel_rfl
theorem zr_68 : zrT Try.prog 68 #[.slice none 0 0] := by unfold zrT; kernel_rfl
theorem zr_85 : zrT Try.prog 85 #[.int .i64 0, .int .i64 0, .int .i64 0, .slice none 0 0, .slice none 0 0, .int .u32 0, .bool false] := by unfold zrT; kernel_rfl
def ts := And.intro @able_10 (And.intro @able_11 (And.intro @able_12 (And.intro @able_13 (And.intro @able_14 (And.intro @able_15 (And.intro @able_16 (And.intro @able_17 (And.intro @able_18 (And.intro @able_19 (And.intro @able_20 (And.intro @able_21 (And.intro @able_22 (And.intro @able_23 (And.intro @able_24 (And.intro @able_25 (And.intro @able_26 (And.intro @able_27 (And.intro @able_28 (And.intro @able_29 (And.intro @able_3 (And.intro @able_30 (And.intro @able_31 (And.intro @able_32 (And.intro @able_33 (And.intro @able_34 (And.intro @able_35 (And.intro @able_36 (And.intro @able_37 (And.intro @able_38 (And.intro @able_39 (And.intro @able_4 (And.intro @able_40 (And.intro @able_41 (And.intro @able_42 (And.intro @able_43 (And.intro @able_44 (And.intro @able_45 (And.intro @able_46 (And.intro @able_47 (And.intro @able_48 (And.intro @able_49 (And.intro @able_5 (And.intro @able_50 (And.intro @able_51 (And.intro @able_52 (And.intro @able_6 (And.intro @able_68 (And.intro @able_7 (And.intro @able_8 (And.intro @able_9 (And.intro @bb_eql_4 (And.intro @bl_29_0_1 (And.intro @bl_61_0_1_2 (And.intro @bl_65 (And.intro @bl_65_0_1 (And.intro @bl_65_2 (And.intro @bl_70_0_1_4_5 (And.intro @bl_85_0_1_2_3_4 (And.intro @bl_85_0_3_4 (And.intro @cv_3_51 (And.intro @fa_29_0 (And.intro @fa_29_1 (And.intro @fa_32_0 (And.intro @fa_32_1 (And.intro @fa_32_2 (And.intro @fa_32_3 (And.intro @fa_32_4 (And.intro @fa_54_0 (And.intro @fa_54_1 (And.intro @fa_61_0 (And.intro @fa_61_1 (And.intro @fa_61_2 (And.intro @fa_61_3 (And.intro @fa_65_0 (And.intro @fa_65_1 (And.intro @fa_70_0 (And.intro @fa_70_1 (And.intro @fa_70_2 (And.intro @fa_70_3 (And.intro @fa_70_4 (And.intro @fa_70_5 (And.intro @fa_70_6 (And.intro @fa_85_0 (And.intro @fa_85_1 (And.intro @fa_85_2 (And.intro @fa_85_3 (And.intro @fa_85_4 (And.intro @fa_85_5 (And.intro @fa_85_6 (And.intro @ia_22 (And.intro @ia_56 (And.intro @ia_58 (And.intro @ia_59 (And.intro @ia_63 (And.intro @ia_67 (And.intro @ia_68 (And.intro @ldc_26 (And.intro @ldc_27 (And.intro @ldc_3 (And.intro @ldc_30 (And.intro @ldc_4 (And.intro @ldc_49 (And.intro @ldc_51 (And.intro @ldc_58 (And.intro @ldc_59 (And.intro @ldc_63 (And.intro @ldc_67 (And.intro @ldc_68 (And.intro @len_22 (And.intro @len_58 (And.intro @len_59 (And.intro @len_63 (And.intro @len_67 (And.intro @len_68 (And.intro @slzb_59 (And.intro @slzb_67 (And.intro @slzb_68 (And.intro @slzh_59 (And.intro @slzh_67 (And.intro @slzh_68 (And.intro @slzl_59 (And.intro @slzl_67 (@slzl_68)))))))))))))))))))))))))))))))))))))))))))))))))))))))))))))))))))))))))))))))))))))))))))))))))))))))))))))))))))))))))))
def tv := And.intro vs (And.intro Go.Vc.vk ts)
end Go.Proofs.Ytidkokdkldfglaa.T

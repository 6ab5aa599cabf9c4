/- Facts on the types of this seat's program, printed by a program. No condition. -/
import Derived.Test.YtgdmoimclelfhaaDoorProg
import Derived.Test.YtgdmoimclelfhaaDoorVcS
set_option maxRecDepth 100000
set_option linter.defProp false
namespace Go.Proofs.YtgdmoimclelfhaaDoor.T
open Go.Vc
theorem able_10 : callable Tryd.prog 10 = true := by kernel_rfl
theorem able_11 : callable Tryd.prog 11 = true := by kernel_rfl
theorem able_12 : callable Tryd.prog 12 = true := by kernel_rfl
theorem able_13 : callable Tryd.prog 13 = true := by kernel_rfl
theorem able_14 : callable Tryd.prog 14 = true := by kernel_rfl
theorem able_15 : callable Tryd.prog 15 = true := by kernel_rfl
theorem able_16 : callable Tryd.prog 16 = true := by kernel_rfl
theorem able_17 : callable Tryd.prog 17 = true := by kernel_rfl
theorem able_18 : callable Tryd.prog 18 = true := by kernel_rfl
theorem able_19 : callable Tryd.prog 19 = true := by kernel_rfl
theorem able_20 : callable Tryd.prog 20 = true := by kernel_rfl
theorem able_21 : callable Tryd.prog 21 = true := by kernel_rfl
theorem able_22 : callable Tryd.prog 22 = true := by kernel_rfl
theorem able_23 : callable Tryd.prog 23 = true := by kernel_rfl
theorem able_24 : callable Tryd.prog 24 = true := by kernel_rfl
theorem able_25 : callable Tryd.prog 25 = true := by kernel_rfl
theorem able_26 : callable Tryd.prog 26 = true := by kernel_rfl
theorem able_27 : callable Tryd.prog 27 = true := by kernel_rfl
theorem able_28 : callable Tryd.prog 28 = true := by kernel_rfl
theorem able_29 : callable Tryd.prog 29 = true := by kernel_rfl
theorem able_3 : callable Tryd.prog 3 = true := by kernel_rfl
theorem able_30 : callable Tryd.prog 30 = true := by kernel_rfl
theorem able_31 : callable Tryd.prog 31 = true := by kernel_rfl
theorem able_32 : callable Tryd.prog 32 = true := by kernel_rfl
theorem able_33 : callable Tryd.prog 33 = true := by kernel_rfl
theorem able_34 : callable Tryd.prog 34 = true := by kernel_rfl
theorem able_35 : callable Tryd.prog 35 = true := by kernel_rfl
theorem able_36 : callable Tryd.prog 36 = true := by kernel_rfl
theorem able_37 : callable Tryd.prog 37 = true := by kernel_rfl
theorem able_38 : callable Tryd.prog 38 = true := by kernel_rfl
theorem able_39 : callable Tryd.prog 39 = true := by kernel_rfl
theorem able_4 : callable Tryd.prog 4 = true := by kernel_rfl
theorem able_40 : callable Tryd.prog 40 = true := by kernel_rfl
theorem able_41 : callable Tryd.prog 41 = true := by kernel_rfl
theorem able_42 : callable Tryd.prog 42 = true := by kernel_rfl
theorem able_43 : callable Tryd.prog 43 = true := by kernel_rfl
theorem able_44 : callable Tryd.prog 44 = true := by kernel_rfl
theorem able_45 : callable Tryd.prog 45 = true := by kernel_rfl
theorem able_46 : callable Tryd.prog 46 = true := by kernel_rfl
theorem able_47 : callable Tryd.prog 47 = true := by kernel_rfl
theorem able_48 : callable Tryd.prog 48 = true := by kernel_rfl
theorem able_49 : callable Tryd.prog 49 = true := by kernel_rfl
theorem able_5 : callable Tryd.prog 5 = true := by kernel_rfl
theorem able_50 : callable Tryd.prog 50 = true := by kernel_rfl
theorem able_51 : callable Tryd.prog 51 = true := by kernel_rfl
theorem able_52 : callable Tryd.prog 52 = true := by kernel_rfl
theorem able_53 : callable Tryd.prog 53 = true := by kernel_rfl
theorem able_54 : callable Tryd.prog 54 = true := by kernel_rfl
theorem able_58 : callable Tryd.prog 58 = true := by kernel_rfl
theorem able_6 : callable Tryd.prog 6 = true := by kernel_rfl
theorem able_60 : callable Tryd.prog 60 = true := by kernel_rfl
theorem able_61 : callable Tryd.prog 61 = true := by kernel_rfl
theorem able_65 : callable Tryd.prog 65 = true := by kernel_rfl
theorem able_7 : callable Tryd.prog 7 = true := by kernel_rfl
theorem able_8 : callable Tryd.prog 8 = true := by kernel_rfl
theorem able_9 : callable Tryd.prog 9 = true := by kernel_rfl
theorem ag_32 : aggT Tryd.prog 32 5 = true := by kernel_rfl
theorem ag_37 : aggT Tryd.prog 37 8 = true := by kernel_rfl
theorem ag_70 : aggT Tryd.prog 70 256 = true := by kernel_rfl
theorem bb_neq_4 {x y : Operand} {a b : Bool} {h : Heap} : binE Tryd.prog .neq 4 x y (.bool a) (.bool b) h = some (.bool (decide (a ≠ b))) := bin_bool_neq Tryd.underlying4
theorem cv_21_5 {k : IntKind} {n : Int} {h : Heap} : cvE Tryd.prog 21 5 (.int k n) h = some (.int .u8 (IntKind.u8.wrap n)) := cv_int Tryd.underlying21 Tryd.underlying5
theorem cv_30_3 {k : IntKind} {n : Int} {h : Heap} : cvE Tryd.prog 30 3 (.int k n) h = some (.int .i64 (IntKind.i64.wrap n)) := cv_int Tryd.underlying30 Tryd.underlying3
theorem cv_3_30 {k : IntKind} {n : Int} {h : Heap} : cvE Tryd.prog 3 30 (.int k n) h = some (.int .u16 (IntKind.u16.wrap n)) := cv_int Tryd.underlying3 Tryd.underlying30
theorem cv_5_21 {k : IntKind} {n : Int} {h : Heap} : cvE Tryd.prog 5 21 (.int k n) h = some (.int .i32 (IntKind.i32.wrap n)) := cv_int Tryd.underlying5 Tryd.underlying21
theorem cv_5_3 {k : IntKind} {n : Int} {h : Heap} : cvE Tryd.prog 5 3 (.int k n) h = some (.int .i64 (IntKind.i64.wrap n)) := cv_int Tryd.underlying5 Tryd.underlying3
theorem fa_32_0 {b o : Nat} {h : Heap} : faE Tryd.prog 32 (.pointer (some ⟨b, o, none⟩)) 0 h = some (.pointer (some ⟨b, o, none⟩)) := fa_of (off := 0) (by kernel_rfl)
theorem fa_32_1 {b o : Nat} {h : Heap} : faE Tryd.prog 32 (.pointer (some ⟨b, o, none⟩)) 1 h = some (.pointer (some ⟨b, o + 1, none⟩)) := fa_of (off := 1) (by kernel_rfl)
theorem fa_32_3 {b o : Nat} {h : Heap} : faE Tryd.prog 32 (.pointer (some ⟨b, o, none⟩)) 3 h = some (.pointer (some ⟨b, o + 3, none⟩)) := fa_of (off := 3) (by kernel_rfl)
theorem fa_32_4 {b o : Nat} {h : Heap} : faE Tryd.prog 32 (.pointer (some ⟨b, o, none⟩)) 4 h = some (.pointer (some ⟨b, o + 4, none⟩)) := fa_of (off := 4) (by kernel_rfl)
theorem fa_37_0 {b o : Nat} {h : Heap} : faE Tryd.prog 37 (.pointer (some ⟨b, o, none⟩)) 0 h = some (.pointer (some ⟨b, o, none⟩)) := fa_of (off := 0) (by kernel_rfl)
theorem fa_37_1 {b o : Nat} {h : Heap} : faE Tryd.prog 37 (.pointer (some ⟨b, o, none⟩)) 1 h = some (.pointer (some ⟨b, o + 1, none⟩)) := fa_of (off := 1) (by kernel_rfl)
theorem fa_37_2 {b o : Nat} {h : Heap} : faE Tryd.prog 37 (.pointer (some ⟨b, o, none⟩)) 2 h = some (.pointer (some ⟨b, o + 2, none⟩)) := fa_of (off := 2) (by kernel_rfl)
theorem fa_37_3 {b o : Nat} {h : Heap} : faE Tryd.prog 37 (.pointer (some ⟨b, o, none⟩)) 3 h = some (.pointer (some ⟨b, o + 3, none⟩)) := fa_of (off := 3) (by kernel_rfl)
theorem fa_37_4 {b o : Nat} {h : Heap} : faE Tryd.prog 37 (.pointer (some ⟨b, o, none⟩)) 4 h = some (.pointer (some ⟨b, o + 4, none⟩)) := fa_of (off := 4) (by kernel_rfl)
theorem fa_37_5 {b o : Nat} {h : Heap} : faE Tryd.prog 37 (.pointer (some ⟨b, o, none⟩)) 5 h = some (.pointer (some ⟨b, o + 5, none⟩)) := fa_of (off := 5) (by kernel_rfl)
theorem fa_37_6 {b o : Nat} {h : Heap} : faE Tryd.prog 37 (.pointer (some ⟨b, o, none⟩)) 6 h = some (.pointer (some ⟨b, o + 6, none⟩)) := fa_of (off := 6) (by kernel_rfl)
theorem fa_37_7 {b o : Nat} {h : Heap} : faE Tryd.prog 37 (.pointer (some ⟨b, o, none⟩)) 7 h = some (.pointer (some ⟨b, o + 7, none⟩)) := fa_of (off := 7) (by kernel_rfl)
theorem ia_22 {b o n c : Nat} {k : IntKind} {i : Int} {h : Heap} (h0 : 0 ≤ i) (h1 : i < n) : iaE Tryd.prog 22 (.slice (some ⟨b, o, none⟩) n c) (.int k i) h = some (.pointer (some ⟨b, o + i.toNat * 8, none⟩)) := ia_of (by kernel_rfl) h0 h1
theorem ia_23 {b o n c : Nat} {k : IntKind} {i : Int} {h : Heap} (h0 : 0 ≤ i) (h1 : i < n) : iaE Tryd.prog 23 (.slice (some ⟨b, o, none⟩) n c) (.int k i) h = some (.pointer (some ⟨b, o + i.toNat * 5, none⟩)) := ia_of (by kernel_rfl) h0 h1
theorem ia_35 {b o n c : Nat} {k : IntKind} {i : Int} {h : Heap} (h0 : 0 ≤ i) (h1 : i < n) : iaE Tryd.prog 35 (.slice (some ⟨b, o, none⟩) n c) (.int k i) h = some (.pointer (some ⟨b, o + i.toNat * 1, none⟩)) := ia_of (by kernel_rfl) h0 h1
theorem ia_44 {b o n c : Nat} {k : IntKind} {i : Int} {h : Heap} (h0 : 0 ≤ i) (h1 : i < n) : iaE Tryd.prog 44 (.slice (some ⟨b, o, none⟩) n c) (.int k i) h = some (.pointer (some ⟨b, o + i.toNat * 1, none⟩)) := ia_of (by kernel_rfl) h0 h1
theorem ia_57 {b o n c : Nat} {k : IntKind} {i : Int} {h : Heap} (h0 : 0 ≤ i) (h1 : i < n) : iaE Tryd.prog 57 (.slice (some ⟨b, o, none⟩) n c) (.int k i) h = some (.pointer (some ⟨b, o + i.toNat * 1, none⟩)) := ia_of (by kernel_rfl) h0 h1
theorem ix_9 {l : List UInt8} {k : IntKind} {i : Int} {h : Heap} (h0 : 0 ≤ i) (h1 : i < l.length) : ixE Tryd.prog 9 (str l) (.int k i) h = some (.int .u8 ((l.getD i.toNat 0).toNat : Int)) := ix_str Tryd.underlying9 h0 h1
theorem ldc_23 {a : Addr} {h : Heap} : ld Tryd.prog 23 a h = cellAt h a := ld_cell (by kernel_rfl)
theorem ldc_3 {a : Addr} {h : Heap} : ld Tryd.prog 3 a h = cellAt h a := ld_cell (by kernel_rfl)
theorem ldc_30 {a : Addr} {h : Heap} : ld Tryd.prog 30 a h = cellAt h a := ld_cell (by kernel_rfl)
theorem ldc_35 {a : Addr} {h : Heap} : ld Tryd.prog 35 a h = cellAt h a := ld_cell (by kernel_rfl)
theorem ldc_4 {a : Addr} {h : Heap} : ld Tryd.prog 4 a h = cellAt h a := ld_cell (by kernel_rfl)
theorem ldc_5 {a : Addr} {h : Heap} : ld Tryd.prog 5 a h = cellAt h a := ld_cell (by kernel_rfl)
theorem ldc_9 {a : Addr} {h : Heap} : ld Tryd.prog 9 a h = cellAt h a := ld_cell (by kernel_rfl)
theorem len_22 {ty : TypeId} {a : Option Addr} {n c : Nat} {h : Heap} : lenE Tryd.prog 22 ty (.slice a n c) h = some (.int .i64 n) := len_slice Tryd.underlying22
theorem len_23 {ty : TypeId} {a : Option Addr} {n c : Nat} {h : Heap} : lenE Tryd.prog 23 ty (.slice a n c) h = some (.int .i64 n) := len_slice Tryd.underlying23
theorem len_35 {ty : TypeId} {a : Option Addr} {n c : Nat} {h : Heap} : lenE Tryd.prog 35 ty (.slice a n c) h = some (.int .i64 n) := len_slice Tryd.underlying35
theorem len_44 {ty : TypeId} {a : Option Addr} {n c : Nat} {h : Heap} : lenE Tryd.prog 44 ty (.slice a n c) h = some (.int .i64 n) := len_slice Tryd.underlying44
theorem len_57 {ty : TypeId} {a : Option Addr} {n c : Nat} {h : Heap} : lenE Tryd.prog 57 ty (.slice a n c) h = some (.int .i64 n) := len_slice Tryd.underlying57
theorem len_9 {ty : TypeId} {l : List UInt8} {h : Heap} : lenE Tryd.prog 9 ty (str l) h = some (.int .i64 l.length) := len_str Tryd.underlying9
theorem slT_22 : slT Tryd.prog 22 37 8 88 = true := by kernel_rfl
theorem slT_23 : slT Tryd.prog 23 32 5 40 = true := by kernel_rfl
theorem slT_35 : slT Tryd.prog 35 3 1 8 = true := by kernel_rfl
theorem slT_44 : slT Tryd.prog 44 5 1 1 = true := by kernel_rfl
theorem slT_57 : slT Tryd.prog 57 9 1 16 = true := by kernel_rfl
theorem slb_9 {l : List UInt8} {k k' : IntKind} {a b : Int} {h : Heap} (h0 : 0 ≤ a) (h1 : a ≤ b) (h2 : b ≤ l.length) : slE Tryd.prog 9 (str l) (some (.int k a)) (some (.int k' b)) none h = some (str ((l.take b.toNat).drop a.toNat)) := sl_str_lh Tryd.underlying9 h0 h1 h2
theorem slh_9 {l : List UInt8} {k : IntKind} {b : Int} {h : Heap} (h0 : 0 ≤ b) (h2 : b ≤ l.length) : slE Tryd.prog 9 (str l) none (some (.int k b)) none h = some (str (l.take b.toNat)) := sl_str_h Tryd.underlying9 h0 h2
theorem sll_9 {l : List UInt8} {k : IntKind} {a : Int} {h : Heap} (h0 : 0 ≤ a) (h2 : a ≤ l.length) : slE Tryd.prog 9 (str l) (some (.int k a)) none none h = some (str (l.drop a.toNat)) := sl_str_l Tryd.underlying9 h0 h2
theorem slzb_57 {a : Option Addr} {n c : Nat} {k k' : IntKind} {lo hi : Int} {h : Heap} (h0 : 0 ≤ lo) (h1 : lo ≤ hi) (h2 : hi ≤ c) : slE Tryd.prog 57 (.slice a n c) (some (.int k lo)) (some (.int k' hi)) none h = some (.slice (slA a c lo.toNat 1) (hi.toNat - lo.toNat) (c - lo.toNat)) := sl_sl_lh slT_57 h0 h1 h2
theorem slzh_57 {a : Option Addr} {n c : Nat} {k : IntKind} {hi : Int} {h : Heap} (h0 : 0 ≤ hi) (h1 : hi ≤ c) : slE Tryd.prog 57 (.slice a n c) none (some (.int k hi)) none h = some (.slice (slA a c 0 1) (hi.toNat - 0) (c - 0)) := sl_sl_h slT_57 h0 h1
theorem slzl_57 {a : Option Addr} {n c : Nat} {k : IntKind} {lo : Int} {h : Heap} (h0 : 0 ≤ lo) (h1 : lo ≤ n) : slE Tryd.prog 57 (.slice a n c) (some (.int k lo)) none none h = some (.slice (slA a c lo.toNat 1) (n - lo.toNat) (c - lo.toNat)) := sl_sl_l slT_57 h0 h1
theorem zr_30 : zrT Tryd.prog 30 #[.int .u16 0] := by unfold zrT; kernel_rfl
theorem zr_35 : zrT Tryd.prog 35 #[.slice none 0 0] := by unfold zrT; kernel_rfl
theorem zr_37 : zrT Tryd.prog 37 #[.int .i64 0, .int .u8 0, .bool false, .int .i64 0, .int .i64 0, .int .i64 0, .slice none 0 0, .slice none 0 0] := by unfold zrT; kernel_rfl
theorem zr_4 : zrT Tryd.prog 4 #[.bool false] := by unfold zrT; kernel_rfl
theorem zr_9 : zrT Tryd.prog 9 #[str []] := by unfold zrT; kernel_rfl
def ts := And.intro @able_10 (And.intro @able_11 (And.intro @able_12 (And.intro @able_13 (And.intro @able_14 (And.intro @able_15 (And.intro @able_16 (And.intro @able_17 (And.intro @able_18 (And.intro @able_19 (And.intro @able_20 (And.intro @able_21 (And.intro @able_22 (And.intro @able_23 (And.intro @able_24 (And.intro @able_25 (And.intro @able_26 (And.intro @able_27 (And.intro @able_28 (And.intro @able_29 (And.intro @able_3 (And.intro @able_30 (And.intro @able_31 (And.intro @able_32 (And.intro @able_33 (And.intro @able_34 (And.intro @able_35 (And.intro @able_36 (And.intro @able_37 (And.intro @able_38 (And.intro @able_39 (And.intro @able_4 (And.intro @able_40 (And.intro @able_41 (And.intro @able_42 (And.intro @able_43 (And.intro @able_44 (And.intro @able_45 (And.intro @able_46 (And.intro @able_47 (And.intro @able_48 (And.intro @able_49 (And.intro @able_5 (And.intro @able_50 (And.intro @able_51 (And.intro @able_52 (And.intro @able_53 (And.intro @able_54 (And.intro @able_58 (And.intro @able_6 (And.intro @able_60 (And.intro @able_61 (And.intro @able_65 (And.intro @able_7 (And.intro @able_8 (And.intro @able_9 (And.intro @bb_neq_4 (And.intro @cv_21_5 (And.intro @cv_30_3 (And.intro @cv_3_30 (And.intro @cv_5_21 (And.intro @cv_5_3 (And.intro @fa_32_0 (And.intro @fa_32_1 (And.intro @fa_32_3 (And.intro @fa_32_4 (And.intro @fa_37_0 (And.intro @fa_37_1 (And.intro @fa_37_2 (And.intro @fa_37_3 (And.intro @fa_37_4 (And.intro @fa_37_5 (And.intro @fa_37_6 (And.intro @fa_37_7 (And.intro @ia_22 (And.intro @ia_23 (And.intro @ia_35 (And.intro @ia_44 (And.intro @ia_57 (And.intro @ix_9 (And.intro @ldc_23 (And.intro @ldc_3 (And.intro @ldc_30 (And.intro @ldc_35 (And.intro @ldc_4 (And.intro @ldc_5 (And.intro @ldc_9 (And.intro @len_22 (And.intro @len_23 (And.intro @len_35 (And.intro @len_44 (And.intro @len_57 (And.intro @len_9 (And.intro @slb_9 (And.intro @slh_9 (And.intro @sll_9 (And.intro @slzb_57 (And.intro @slzh_57 (@slzl_57))))))))))))))))))))))))))))))))))))))))))))))))))))))))))))))))))))))))))))))))))))))))))))))))))
def tv := And.intro vs (And.intro Go.Vc.vk ts)
end Go.Proofs.YtgdmoimclelfhaaDoor.T

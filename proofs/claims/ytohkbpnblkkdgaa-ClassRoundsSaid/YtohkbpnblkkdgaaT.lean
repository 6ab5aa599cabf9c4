/- Facts on the types of this seat's program, printed by a program. No condition. -/
import Derived.Test.YtohkbpnblkkdgaaProg
import Derived.Test.YtohkbpnblkkdgaaVcS
set_option maxRecDepth 100000
set_option linter.defProp false
namespace Go.Proofs.Ytohkbpnblkkdgaa.T
open Go.Vc
theorem able_10 : callable Try.prog 10 = true := by kernel_rfl
theorem able_11 : callable Try.prog 11 = true := by kernel_rfl
theorem able_12 : callable Try.prog 12 = true := by kernel_rfl
theorem able_13 : callable Try.prog 13 = true := by kernel_rfl
theorem able_14 : callable Try.prog 14 = true := by kernel_rfl
theorem able_15 : callable Try.prog 15 = true := by kernel_rfl
theorem able_16 : callable Try.prog 16 = true := by kernel_rfl
theorem able_17 : callable Try.prog 17 = true := by kernel_rfl
theorem able_18 : callable Try.prog 18 = true := by kernel_rfl
theorem able_19 : callable Try.prog 19 = true := by kernel_rfl
theorem able_20 : callable Try.prog 20 = true := by kernel_rfl
theorem able_21 : callable Try.prog 21 = true := by kernel_rfl
theorem able_22 : callable Try.prog 22 = true := by kernel_rfl
theorem able_23 : callable Try.prog 23 = true := by kernel_rfl
theorem able_24 : callable Try.prog 24 = true := by kernel_rfl
theorem able_25 : callable Try.prog 25 = true := by kernel_rfl
theorem able_26 : callable Try.prog 26 = true := by kernel_rfl
theorem able_27 : callable Try.prog 27 = true := by kernel_rfl
theorem able_28 : callable Try.prog 28 = true := by kernel_rfl
theorem able_29 : callable Try.prog 29 = true := by kernel_rfl
theorem able_3 : callable Try.prog 3 = true := by kernel_rfl
theorem able_30 : callable Try.prog 30 = true := by kernel_rfl
theorem able_31 : callable Try.prog 31 = true := by kernel_rfl
theorem able_32 : callable Try.prog 32 = true := by kernel_rfl
theorem able_33 : callable Try.prog 33 = true := by kernel_rfl
theorem able_34 : callable Try.prog 34 = true := by kernel_rfl
theorem able_35 : callable Try.prog 35 = true := by kernel_rfl
theorem able_36 : callable Try.prog 36 = true := by kernel_rfl
theorem able_37 : callable Try.prog 37 = true := by kernel_rfl
theorem able_38 : callable Try.prog 38 = true := by kernel_rfl
theorem able_39 : callable Try.prog 39 = true := by kernel_rfl
theorem able_4 : callable Try.prog 4 = true := by kernel_rfl
theorem able_40 : callable Try.prog 40 = true := by kernel_rfl
theorem able_41 : callable Try.prog 41 = true := by kernel_rfl
theorem able_42 : callable Try.prog 42 = true := by kernel_rfl
theorem able_43 : callable Try.prog 43 = true := by kernel_rfl
theorem able_44 : callable Try.prog 44 = true := by kernel_rfl
theorem able_45 : callable Try.prog 45 = true := by kernel_rfl
theorem able_46 : callable Try.prog 46 = true := by kernel_rfl
theorem able_47 : callable Try.prog 47 = true := by kernel_rfl
theorem able_48 : callable Try.prog 48 = true := by kernel_rfl
theorem able_49 : callable Try.prog 49 = true := by kernel_rfl
theorem able_5 : callable Try.prog 5 = true := by kernel_rfl
theorem able_50 : callable Try.prog 50 = true := by kernel_rfl
theorem able_51 : callable Try.prog 51 = true := by kernel_rfl
theorem able_52 : callable Try.prog 52 = true := by kernel_rfl
theorem able_53 : callable Try.prog 53 = true := by kernel_rfl
theorem able_54 : callable Try.prog 54 = true := by kernel_rfl
theorem able_55 : callable Try.prog 55 = true := by kernel_rfl
theorem able_56 : callable Try.prog 56 = true := by kernel_rfl
theorem able_57 : callable Try.prog 57 = true := by kernel_rfl
theorem able_58 : callable Try.prog 58 = true := by kernel_rfl
theorem able_59 : callable Try.prog 59 = true := by kernel_rfl
theorem able_6 : callable Try.prog 6 = true := by kernel_rfl
theorem able_60 : callable Try.prog 60 = true := by kernel_rfl
theorem able_61 : callable Try.prog 61 = true := by kernel_rfl
theorem able_62 : callable Try.prog 62 = true := by kernel_rfl
theorem able_63 : callable Try.prog 63 = true := by kernel_rfl
theorem able_64 : callable Try.prog 64 = true := by kernel_rfl
theorem able_65 : callable Try.prog 65 = true := by kernel_rfl
theorem able_66 : callable Try.prog 66 = true := by kernel_rfl
theorem able_67 : callable Try.prog 67 = true := by kernel_rfl
theorem able_68 : callable Try.prog 68 = true := by kernel_rfl
theorem able_69 : callable Try.prog 69 = true := by kernel_rfl
theorem able_7 : callable Try.prog 7 = true := by kernel_rfl
theorem able_70 : callable Try.prog 70 = true := by kernel_rfl
theorem able_71 : callable Try.prog 71 = true := by kernel_rfl
theorem able_72 : callable Try.prog 72 = true := by kernel_rfl
theorem able_73 : callable Try.prog 73 = true := by kernel_rfl
theorem able_74 : callable Try.prog 74 = true := by kernel_rfl
theorem able_75 : callable Try.prog 75 = true := by kernel_rfl
theorem able_76 : callable Try.prog 76 = true := by kernel_rfl
theorem able_77 : callable Try.prog 77 = true := by kernel_rfl
theorem able_78 : callable Try.prog 78 = true := by kernel_rfl
theorem able_79 : callable Try.prog 79 = true := by kernel_rfl
theorem able_8 : callable Try.prog 8 = true := by kernel_rfl
theorem able_80 : callable Try.prog 80 = true := by kernel_rfl
theorem able_81 : callable Try.prog 81 = true := by kernel_rfl
theorem able_82 : callable Try.prog 82 = true := by kernel_rfl
theorem able_83 : callable Try.prog 83 = true := by kernel_rfl
theorem able_84 : callable Try.prog 84 = true := by kernel_rfl
theorem able_85 : callable Try.prog 85 = true := by kernel_rfl
theorem able_86 : callable Try.prog 86 = true := by kernel_rfl
theorem able_87 : callable Try.prog 87 = true := by kernel_rfl
theorem able_88 : callable Try.prog 88 = true := by kernel_rfl
theorem able_89 : callable Try.prog 89 = true := by kernel_rfl
theorem able_9 : callable Try.prog 9 = true := by kernel_rfl
theorem able_90 : callable Try.prog 90 = true := by kernel_rfl
theorem able_91 : callable Try.prog 91 = true := by kernel_rfl
theorem able_92 : callable Try.prog 92 = true := by kernel_rfl
theorem ag_132 : aggT Try.prog 132 4 = true := by kernel_rfl
theorem ag_25 : aggT Try.prog 25 3 = true := by kernel_rfl
theorem ag_35 : aggT Try.prog 35 3 = true := by kernel_rfl
theorem ag_43 : aggT Try.prog 43 9 = true := by kernel_rfl
theorem ag_76 : aggT Try.prog 76 5 = true := by kernel_rfl
theorem ag_79 : aggT Try.prog 79 5 = true := by kernel_rfl
theorem ag_81 : aggT Try.prog 81 9 = true := by kernel_rfl
theorem ag_89 : aggT Try.prog 89 4 = true := by kernel_rfl
theorem bb_neq_4 {x y : Operand} {a b : Bool} {h : Heap} : binE Try.prog .neq 4 x y (.bool a) (.bool b) h = some (.bool (decide (a ≠ b))) := bin_bool_neq Try.underlying4
theorem bl_102_0 {p0 : Option Addr} {h : Heap} : bldE Try.prog 102 [0] [.pointer p0] h = some (.agg #[.pointer p0, .int .u16 0, .int .u16 0, .int .u16 0, .int .u16 0, .int .u16 0, .slice none 0 0, .slice none 0 0, .slice none 0 0, .slice none 0 0]) := bldE_of (by kernel_rfl)
theorem bl_112_0 {p0 : Option Addr} {h : Heap} : bldE Try.prog 112 [0] [.pointer p0] h = some (.agg #[.pointer p0, .slice none 0 0]) := bldE_of (by kernel_rfl)
theorem bl_120_0 {l0 : List UInt8} {h : Heap} : bldE Try.prog 120 [0] [str l0] h = some (.agg #[str l0, .int .i64 0, .int .i64 0, .int .i64 0]) := bldE_of (by kernel_rfl)
theorem bl_132  {h : Heap} : bldE Try.prog 132 [] [] h = some (.agg #[.int .i64 0, .int .i64 0, .int .i64 0, .int .u16 0]) := bldE_of (by kernel_rfl)
theorem bl_132_0_1_2_3 {n0 : Int} {n1 : Int} {n2 : Int} {n3 : Int} {h : Heap} : bldE Try.prog 132 [0, 1, 2, 3] [.int .i64 n0, .int .i64 n1, .int .i64 n2, .int .u16 n3] h = some (.agg #[.int .i64 n0, .int .i64 n1, .int .i64 n2, .int .u16 n3]) := bldE_of (by kernel_rfl)
theorem bl_25_0 {n0 : Int} {h : Heap} : bldE Try.prog 25 [0] [.int .u8 n0] h = some (.agg #[.int .u8 n0, str [], .int .i64 0]) := bldE_of (by kernel_rfl)
theorem bl_25_0_2 {n0 : Int} {n2 : Int} {h : Heap} : bldE Try.prog 25 [0, 2] [.int .u8 n0, .int .i64 n2] h = some (.agg #[.int .u8 n0, str [], .int .i64 n2]) := bldE_of (by kernel_rfl)
theorem bl_35_1 {a1 : Option Addr} {n1 c1 : Nat} {h : Heap} : bldE Try.prog 35 [1] [.slice a1 n1 c1] h = some (.agg #[.int .i64 0, .slice a1 n1 c1, .slice none 0 0]) := bldE_of (by kernel_rfl)
theorem bl_43  {h : Heap} : bldE Try.prog 43 [] [] h = some (.agg #[.int .u16 0, .int .u16 0, .int .u16 0, .int .u16 0, .int .u16 0, .slice none 0 0, .slice none 0 0, .slice none 0 0, .slice none 0 0]) := bldE_of (by kernel_rfl)
theorem bl_43_1_2_5_3_4_7_8 {n1 : Int} {n2 : Int} {a5 : Option Addr} {n5 c5 : Nat} {n3 : Int} {n4 : Int} {a7 : Option Addr} {n7 c7 : Nat} {a8 : Option Addr} {n8 c8 : Nat} {h : Heap} : bldE Try.prog 43 [1, 2, 5, 3, 4, 7, 8] [.int .u16 n1, .int .u16 n2, .slice a5 n5 c5, .int .u16 n3, .int .u16 n4, .slice a7 n7 c7, .slice a8 n8 c8] h = some (.agg #[.int .u16 0, .int .u16 n1, .int .u16 n2, .int .u16 n3, .int .u16 n4, .slice a5 n5 c5, .slice none 0 0, .slice a7 n7 c7, .slice a8 n8 c8]) := bldE_of (by kernel_rfl)
theorem bl_66_0 {l0 : List UInt8} {h : Heap} : bldE Try.prog 66 [0] [str l0] h = some (.agg #[str l0, .int .i64 0, .int .i64 0, .int .i64 0]) := bldE_of (by kernel_rfl)
theorem bl_71_1 {a1 : Option Addr} {n1 c1 : Nat} {h : Heap} : bldE Try.prog 71 [1] [.slice a1 n1 c1] h = some (.agg #[.slice none 0 0, .slice a1 n1 c1, .int .i64 0]) := bldE_of (by kernel_rfl)
theorem bl_76  {h : Heap} : bldE Try.prog 76 [] [] h = some (.agg #[.int .u8 0, str [], .int .u64 0, .int .u16 0, .int .u16 0]) := bldE_of (by kernel_rfl)
theorem bl_76_0 {n0 : Int} {h : Heap} : bldE Try.prog 76 [0] [.int .u8 n0] h = some (.agg #[.int .u8 n0, str [], .int .u64 0, .int .u16 0, .int .u16 0]) := bldE_of (by kernel_rfl)
theorem bl_76_0_1 {n0 : Int} {l1 : List UInt8} {h : Heap} : bldE Try.prog 76 [0, 1] [.int .u8 n0, str l1] h = some (.agg #[.int .u8 n0, str l1, .int .u64 0, .int .u16 0, .int .u16 0]) := bldE_of (by kernel_rfl)
theorem bl_76_0_3 {n0 : Int} {n3 : Int} {h : Heap} : bldE Try.prog 76 [0, 3] [.int .u8 n0, .int .u16 n3] h = some (.agg #[.int .u8 n0, str [], .int .u64 0, .int .u16 n3, .int .u16 0]) := bldE_of (by kernel_rfl)
theorem bl_79  {h : Heap} : bldE Try.prog 79 [] [] h = some (.agg #[.int .i64 0, .int .i64 0, str [], .slice none 0 0, str []]) := bldE_of (by kernel_rfl)
theorem bl_79_0_1 {n0 : Int} {n1 : Int} {h : Heap} : bldE Try.prog 79 [0, 1] [.int .i64 n0, .int .i64 n1] h = some (.agg #[.int .i64 n0, .int .i64 n1, str [], .slice none 0 0, str []]) := bldE_of (by kernel_rfl)
theorem bl_79_0_2 {n0 : Int} {l2 : List UInt8} {h : Heap} : bldE Try.prog 79 [0, 2] [.int .i64 n0, str l2] h = some (.agg #[.int .i64 n0, .int .i64 0, str l2, .slice none 0 0, str []]) := bldE_of (by kernel_rfl)
theorem bl_81  {h : Heap} : bldE Try.prog 81 [] [] h = some (.agg #[.int .u16 0, .int .u16 0, .int .u16 0, .bool false, .int .i64 0, .int .i64 0, str [], .slice none 0 0, str []]) := bldE_of (by kernel_rfl)
theorem bl_81_0_1_2 {n0 : Int} {n1 : Int} {n2 : Int} {h : Heap} : bldE Try.prog 81 [0, 1, 2] [.int .u16 n0, .int .u16 n1, .int .u16 n2] h = some (.agg #[.int .u16 n0, .int .u16 n1, .int .u16 n2, .bool false, .int .i64 0, .int .i64 0, str [], .slice none 0 0, str []]) := bldE_of (by kernel_rfl)
theorem bl_81_0_1_2_3_4 {n0 : Int} {n1 : Int} {n2 : Int} {b3 : Bool} {u4_0 u4_1 u4_2 u4_3 u4_4 : Value} {h : Heap} : bldE Try.prog 81 [0, 1, 2, 3, 4] [.int .u16 n0, .int .u16 n1, .int .u16 n2, .bool b3, .agg #[u4_0, u4_1, u4_2, u4_3, u4_4]] h = some (.agg #[.int .u16 n0, .int .u16 n1, .int .u16 n2, .bool b3, u4_0, u4_1, u4_2, u4_3, u4_4]) := bldE_of (by kernel_rfl)
theorem bl_84_1 {u1_0 u1_1 u1_2 u1_3 u1_4 u1_5 u1_6 u1_7 u1_8 : Value} {h : Heap} : bldE Try.prog 84 [1] [.agg #[u1_0, u1_1, u1_2, u1_3, u1_4, u1_5, u1_6, u1_7, u1_8]] h = some (.agg #[.slice none 0 0, u1_0, u1_1, u1_2, u1_3, u1_4, u1_5, u1_6, u1_7, u1_8, .int .i64 0]) := bldE_of (by kernel_rfl)
theorem bl_89  {h : Heap} : bldE Try.prog 89 [] [] h = some (.agg #[.int .u16 0, .int .u16 0, .int .u16 0, .int .u16 0]) := bldE_of (by kernel_rfl)
theorem bl_89_0_1_2 {n0 : Int} {n1 : Int} {n2 : Int} {h : Heap} : bldE Try.prog 89 [0, 1, 2] [.int .u16 n0, .int .u16 n1, .int .u16 n2] h = some (.agg #[.int .u16 n0, .int .u16 n1, .int .u16 n2, .int .u16 0]) := bldE_of (by kernel_rfl)
theorem bl_94_0 {u0_0 u0_1 u0_2 u0_3 u0_4 u0_5 u0_6 u0_7 u0_8 : Value} {h : Heap} : bldE Try.prog 94 [0] [.agg #[u0_0, u0_1, u0_2, u0_3, u0_4, u0_5, u0_6, u0_7, u0_8]] h = some (.agg #[u0_0, u0_1, u0_2, u0_3, u0_4, u0_5, u0_6, u0_7, u0_8, .int .i64 0]) := bldE_of (by kernel_rfl)
theorem cv_38_3 {k : IntKind} {n : Int} {h : Heap} : cvE Try.prog 38 3 (.int k n) h = some (.int .i64 (IntKind.i64.wrap n)) := cv_int Try.underlying38 Try.underlying3
theorem cv_38_74 {k : IntKind} {n : Int} {h : Heap} : cvE Try.prog 38 74 (.int k n) h = some (.int .u64 (IntKind.u64.wrap n)) := cv_int Try.underlying38 Try.underlying74
theorem cv_3_38 {k : IntKind} {n : Int} {h : Heap} : cvE Try.prog 3 38 (.int k n) h = some (.int .u16 (IntKind.u16.wrap n)) := cv_int Try.underlying3 Try.underlying38
theorem cv_3_5 {k : IntKind} {n : Int} {h : Heap} : cvE Try.prog 3 5 (.int k n) h = some (.int .u8 (IntKind.u8.wrap n)) := cv_int Try.underlying3 Try.underlying5
theorem cv_3_74 {k : IntKind} {n : Int} {h : Heap} : cvE Try.prog 3 74 (.int k n) h = some (.int .u64 (IntKind.u64.wrap n)) := cv_int Try.underlying3 Try.underlying74
theorem cv_5_3 {k : IntKind} {n : Int} {h : Heap} : cvE Try.prog 5 3 (.int k n) h = some (.int .i64 (IntKind.i64.wrap n)) := cv_int Try.underlying5 Try.underlying3
theorem cv_5_38 {k : IntKind} {n : Int} {h : Heap} : cvE Try.prog 5 38 (.int k n) h = some (.int .u16 (IntKind.u16.wrap n)) := cv_int Try.underlying5 Try.underlying38
theorem cv_5_74 {k : IntKind} {n : Int} {h : Heap} : cvE Try.prog 5 74 (.int k n) h = some (.int .u64 (IntKind.u64.wrap n)) := cv_int Try.underlying5 Try.underlying74
theorem cv_74_3 {k : IntKind} {n : Int} {h : Heap} : cvE Try.prog 74 3 (.int k n) h = some (.int .i64 (IntKind.i64.wrap n)) := cv_int Try.underlying74 Try.underlying3
theorem cv_74_38 {k : IntKind} {n : Int} {h : Heap} : cvE Try.prog 74 38 (.int k n) h = some (.int .u16 (IntKind.u16.wrap n)) := cv_int Try.underlying74 Try.underlying38
theorem cv_74_5 {k : IntKind} {n : Int} {h : Heap} : cvE Try.prog 74 5 (.int k n) h = some (.int .u8 (IntKind.u8.wrap n)) := cv_int Try.underlying74 Try.underlying5
theorem cvb_69_9 {b o n c : Nat} {l : List UInt8} {h : Heap} (H : Rd h b o (bytesV l)) (hl : l.length = n) : cvE Try.prog 69 9 (.slice (some ⟨b, o, none⟩) n c) h = some (str l) := cv_bytes Try.underlying69 Try.underlying5 Try.underlying9 H hl
theorem cvl1_69_9 {k : Nat} {a : Int} {h : Heap} {e : TypeId} {fz : Nat × Nat} : cvE Try.prog 69 9 (.slice (some ⟨h.size, 0, none⟩) 1 k) (h.push (.cells #[.int .u8 a] e fz)) = some (str [UInt8.ofNat a.toNat]) := cv_lit1 Try.underlying69 Try.underlying5 Try.underlying9
theorem cvl2_69_9 {k : Nat} {a b : Int} {h : Heap} {e : TypeId} {fz : Nat × Nat} : cvE Try.prog 69 9 (.slice (some ⟨h.size, 0, none⟩) 2 k) (h.push (.cells #[.int .u8 a, .int .u8 b] e fz)) = some (str [UInt8.ofNat a.toNat, UInt8.ofNat b.toNat]) := cv_lit2 Try.underlying69 Try.underlying5 Try.underlying9
theorem cvl3_69_9 {k : Nat} {a b c : Int} {h : Heap} {e : TypeId} {fz : Nat × Nat} : cvE Try.prog 69 9 (.slice (some ⟨h.size, 0, none⟩) 3 k) (h.push (.cells #[.int .u8 a, .int .u8 b, .int .u8 c] e fz)) = some (str [UInt8.ofNat a.toNat, UInt8.ofNat b.toNat, UInt8.ofNat c.toNat]) := cv_lit3 Try.underlying69 Try.underlying5 Try.underlying9
theorem cvn_69_9 {n c : Nat} {h : Heap} : cvE Try.prog 69 9 (.slice none n c) h = some (str []) := cv_bytes_nil Try.underlying69 Try.underlying5 Try.underlying9
theorem cvo_69_9 {base n : Nat} {e : TypeId} {v : Value} {l : List UInt8} {h : Heap} (H : Own h base e 1 v n (bytesV l)) : cvE Try.prog 69 9 v h = some (str l) := cv_own Try.underlying69 Try.underlying5 Try.underlying9 H
theorem fa_102_0 {b o : Nat} {h : Heap} : faE Try.prog 102 (.pointer (some ⟨b, o, none⟩)) 0 h = some (.pointer (some ⟨b, o, none⟩)) := fa_of (off := 0) (by kernel_rfl)
theorem fa_102_1 {b o : Nat} {h : Heap} : faE Try.prog 102 (.pointer (some ⟨b, o, none⟩)) 1 h = some (.pointer (some ⟨b, o + 1, none⟩)) := fa_of (off := 1) (by kernel_rfl)
theorem fa_112_0 {b o : Nat} {h : Heap} : faE Try.prog 112 (.pointer (some ⟨b, o, none⟩)) 0 h = some (.pointer (some ⟨b, o, none⟩)) := fa_of (off := 0) (by kernel_rfl)
theorem fa_112_1 {b o : Nat} {h : Heap} : faE Try.prog 112 (.pointer (some ⟨b, o, none⟩)) 1 h = some (.pointer (some ⟨b, o + 1, none⟩)) := fa_of (off := 1) (by kernel_rfl)
theorem fa_120_0 {b o : Nat} {h : Heap} : faE Try.prog 120 (.pointer (some ⟨b, o, none⟩)) 0 h = some (.pointer (some ⟨b, o, none⟩)) := fa_of (off := 0) (by kernel_rfl)
theorem fa_120_1 {b o : Nat} {h : Heap} : faE Try.prog 120 (.pointer (some ⟨b, o, none⟩)) 1 h = some (.pointer (some ⟨b, o + 1, none⟩)) := fa_of (off := 1) (by kernel_rfl)
theorem fa_120_2 {b o : Nat} {h : Heap} : faE Try.prog 120 (.pointer (some ⟨b, o, none⟩)) 2 h = some (.pointer (some ⟨b, o + 2, none⟩)) := fa_of (off := 2) (by kernel_rfl)
theorem fa_120_3 {b o : Nat} {h : Heap} : faE Try.prog 120 (.pointer (some ⟨b, o, none⟩)) 3 h = some (.pointer (some ⟨b, o + 3, none⟩)) := fa_of (off := 3) (by kernel_rfl)
theorem fa_132_0 {b o : Nat} {h : Heap} : faE Try.prog 132 (.pointer (some ⟨b, o, none⟩)) 0 h = some (.pointer (some ⟨b, o, none⟩)) := fa_of (off := 0) (by kernel_rfl)
theorem fa_132_1 {b o : Nat} {h : Heap} : faE Try.prog 132 (.pointer (some ⟨b, o, none⟩)) 1 h = some (.pointer (some ⟨b, o + 1, none⟩)) := fa_of (off := 1) (by kernel_rfl)
theorem fa_132_2 {b o : Nat} {h : Heap} : faE Try.prog 132 (.pointer (some ⟨b, o, none⟩)) 2 h = some (.pointer (some ⟨b, o + 2, none⟩)) := fa_of (off := 2) (by kernel_rfl)
theorem fa_132_3 {b o : Nat} {h : Heap} : faE Try.prog 132 (.pointer (some ⟨b, o, none⟩)) 3 h = some (.pointer (some ⟨b, o + 3, none⟩)) := fa_of (off := 3) (by kernel_rfl)
theorem fa_25_0 {b o : Nat} {h : Heap} : faE Try.prog 25 (.pointer (some ⟨b, o, none⟩)) 0 h = some (.pointer (some ⟨b, o, none⟩)) := fa_of (off := 0) (by kernel_rfl)
theorem fa_25_1 {b o : Nat} {h : Heap} : faE Try.prog 25 (.pointer (some ⟨b, o, none⟩)) 1 h = some (.pointer (some ⟨b, o + 1, none⟩)) := fa_of (off := 1) (by kernel_rfl)
theorem fa_25_2 {b o : Nat} {h : Heap} : faE Try.prog 25 (.pointer (some ⟨b, o, none⟩)) 2 h = some (.pointer (some ⟨b, o + 2, none⟩)) := fa_of (off := 2) (by kernel_rfl)
theorem fa_35_0 {b o : Nat} {h : Heap} : faE Try.prog 35 (.pointer (some ⟨b, o, none⟩)) 0 h = some (.pointer (some ⟨b, o, none⟩)) := fa_of (off := 0) (by kernel_rfl)
theorem fa_35_1 {b o : Nat} {h : Heap} : faE Try.prog 35 (.pointer (some ⟨b, o, none⟩)) 1 h = some (.pointer (some ⟨b, o + 1, none⟩)) := fa_of (off := 1) (by kernel_rfl)
theorem fa_35_2 {b o : Nat} {h : Heap} : faE Try.prog 35 (.pointer (some ⟨b, o, none⟩)) 2 h = some (.pointer (some ⟨b, o + 2, none⟩)) := fa_of (off := 2) (by kernel_rfl)
theorem fa_43_0 {b o : Nat} {h : Heap} : faE Try.prog 43 (.pointer (some ⟨b, o, none⟩)) 0 h = some (.pointer (some ⟨b, o, none⟩)) := fa_of (off := 0) (by kernel_rfl)
theorem fa_43_1 {b o : Nat} {h : Heap} : faE Try.prog 43 (.pointer (some ⟨b, o, none⟩)) 1 h = some (.pointer (some ⟨b, o + 1, none⟩)) := fa_of (off := 1) (by kernel_rfl)
theorem fa_43_2 {b o : Nat} {h : Heap} : faE Try.prog 43 (.pointer (some ⟨b, o, none⟩)) 2 h = some (.pointer (some ⟨b, o + 2, none⟩)) := fa_of (off := 2) (by kernel_rfl)
theorem fa_43_3 {b o : Nat} {h : Heap} : faE Try.prog 43 (.pointer (some ⟨b, o, none⟩)) 3 h = some (.pointer (some ⟨b, o + 3, none⟩)) := fa_of (off := 3) (by kernel_rfl)
theorem fa_43_4 {b o : Nat} {h : Heap} : faE Try.prog 43 (.pointer (some ⟨b, o, none⟩)) 4 h = some (.pointer (some ⟨b, o + 4, none⟩)) := fa_of (off := 4) (by kernel_rfl)
theorem fa_43_5 {b o : Nat} {h : Heap} : faE Try.prog 43 (.pointer (some ⟨b, o, none⟩)) 5 h = some (.pointer (some ⟨b, o + 5, none⟩)) := fa_of (off := 5) (by kernel_rfl)
theorem fa_43_6 {b o : Nat} {h : Heap} : faE Try.prog 43 (.pointer (some ⟨b, o, none⟩)) 6 h = some (.pointer (some ⟨b, o + 6, none⟩)) := fa_of (off := 6) (by kernel_rfl)
theorem fa_43_7 {b o : Nat} {h : Heap} : faE Try.prog 43 (.pointer (some ⟨b, o, none⟩)) 7 h = some (.pointer (some ⟨b, o + 7, none⟩)) := fa_of (off := 7) (by kernel_rfl)
theorem fa_43_8 {b o : Nat} {h : Heap} : faE Try.prog 43 (.pointer (some ⟨b, o, none⟩)) 8 h = some (.pointer (some ⟨b, o + 8, none⟩)) := fa_of (off := 8) (by kernel_rfl)
theorem fa_66_0 {b o : Nat} {h : Heap} : faE Try.prog 66 (.pointer (some ⟨b, o, none⟩)) 0 h = some (.pointer (some ⟨b, o, none⟩)) := fa_of (off := 0) (by kernel_rfl)
theorem fa_66_1 {b o : Nat} {h : Heap} : faE Try.prog 66 (.pointer (some ⟨b, o, none⟩)) 1 h = some (.pointer (some ⟨b, o + 1, none⟩)) := fa_of (off := 1) (by kernel_rfl)
theorem fa_66_2 {b o : Nat} {h : Heap} : faE Try.prog 66 (.pointer (some ⟨b, o, none⟩)) 2 h = some (.pointer (some ⟨b, o + 2, none⟩)) := fa_of (off := 2) (by kernel_rfl)
theorem fa_66_3 {b o : Nat} {h : Heap} : faE Try.prog 66 (.pointer (some ⟨b, o, none⟩)) 3 h = some (.pointer (some ⟨b, o + 3, none⟩)) := fa_of (off := 3) (by kernel_rfl)
theorem fa_71_0 {b o : Nat} {h : Heap} : faE Try.prog 71 (.pointer (some ⟨b, o, none⟩)) 0 h = some (.pointer (some ⟨b, o, none⟩)) := fa_of (off := 0) (by kernel_rfl)
theorem fa_71_1 {b o : Nat} {h : Heap} : faE Try.prog 71 (.pointer (some ⟨b, o, none⟩)) 1 h = some (.pointer (some ⟨b, o + 1, none⟩)) := fa_of (off := 1) (by kernel_rfl)
theorem fa_71_2 {b o : Nat} {h : Heap} : faE Try.prog 71 (.pointer (some ⟨b, o, none⟩)) 2 h = some (.pointer (some ⟨b, o + 2, none⟩)) := fa_of (off := 2) (by kernel_rfl)
theorem fa_76_0 {b o : Nat} {h : Heap} : faE Try.prog 76 (.pointer (some ⟨b, o, none⟩)) 0 h = some (.pointer (some ⟨b, o, none⟩)) := fa_of (off := 0) (by kernel_rfl)
theorem fa_76_1 {b o : Nat} {h : Heap} : faE Try.prog 76 (.pointer (some ⟨b, o, none⟩)) 1 h = some (.pointer (some ⟨b, o + 1, none⟩)) := fa_of (off := 1) (by kernel_rfl)
theorem fa_76_2 {b o : Nat} {h : Heap} : faE Try.prog 76 (.pointer (some ⟨b, o, none⟩)) 2 h = some (.pointer (some ⟨b, o + 2, none⟩)) := fa_of (off := 2) (by kernel_rfl)
theorem fa_76_3 {b o : Nat} {h : Heap} : faE Try.prog 76 (.pointer (some ⟨b, o, none⟩)) 3 h = some (.pointer (some ⟨b, o + 3, none⟩)) := fa_of (off := 3) (by kernel_rfl)
theorem fa_76_4 {b o : Nat} {h : Heap} : faE Try.prog 76 (.pointer (some ⟨b, o, none⟩)) 4 h = some (.pointer (some ⟨b, o + 4, none⟩)) := fa_of (off := 4) (by kernel_rfl)
theorem fa_79_0 {b o : Nat} {h : Heap} : faE Try.prog 79 (.pointer (some ⟨b, o, none⟩)) 0 h = some (.pointer (some ⟨b, o, none⟩)) := fa_of (off := 0) (by kernel_rfl)
theorem fa_79_1 {b o : Nat} {h : Heap} : faE Try.prog 79 (.pointer (some ⟨b, o, none⟩)) 1 h = some (.pointer (some ⟨b, o + 1, none⟩)) := fa_of (off := 1) (by kernel_rfl)
theorem fa_79_2 {b o : Nat} {h : Heap} : faE Try.prog 79 (.pointer (some ⟨b, o, none⟩)) 2 h = some (.pointer (some ⟨b, o + 2, none⟩)) := fa_of (off := 2) (by kernel_rfl)
theorem fa_79_3 {b o : Nat} {h : Heap} : faE Try.prog 79 (.pointer (some ⟨b, o, none⟩)) 3 h = some (.pointer (some ⟨b, o + 3, none⟩)) := fa_of (off := 3) (by kernel_rfl)
theorem fa_79_4 {b o : Nat} {h : Heap} : faE Try.prog 79 (.pointer (some ⟨b, o, none⟩)) 4 h = some (.pointer (some ⟨b, o + 4, none⟩)) := fa_of (off := 4) (by kernel_rfl)
theorem fa_81_0 {b o : Nat} {h : Heap} : faE Try.prog 81 (.pointer (some ⟨b, o, none⟩)) 0 h = some (.pointer (some ⟨b, o, none⟩)) := fa_of (off := 0) (by kernel_rfl)
theorem fa_81_1 {b o : Nat} {h : Heap} : faE Try.prog 81 (.pointer (some ⟨b, o, none⟩)) 1 h = some (.pointer (some ⟨b, o + 1, none⟩)) := fa_of (off := 1) (by kernel_rfl)
theorem fa_81_2 {b o : Nat} {h : Heap} : faE Try.prog 81 (.pointer (some ⟨b, o, none⟩)) 2 h = some (.pointer (some ⟨b, o + 2, none⟩)) := fa_of (off := 2) (by kernel_rfl)
theorem fa_81_3 {b o : Nat} {h : Heap} : faE Try.prog 81 (.pointer (some ⟨b, o, none⟩)) 3 h = some (.pointer (some ⟨b, o + 3, none⟩)) := fa_of (off := 3) (by kernel_rfl)
theorem fa_81_4 {b o : Nat} {h : Heap} : faE Try.prog 81 (.pointer (some ⟨b, o, none⟩)) 4 h = some (.pointer (some ⟨b, o + 4, none⟩)) := fa_of (off := 4) (by kernel_rfl)
theorem fa_84_0 {b o : Nat} {h : Heap} : faE Try.prog 84 (.pointer (some ⟨b, o, none⟩)) 0 h = some (.pointer (some ⟨b, o, none⟩)) := fa_of (off := 0) (by kernel_rfl)
theorem fa_84_1 {b o : Nat} {h : Heap} : faE Try.prog 84 (.pointer (some ⟨b, o, none⟩)) 1 h = some (.pointer (some ⟨b, o + 1, none⟩)) := fa_of (off := 1) (by kernel_rfl)
theorem fa_84_2 {b o : Nat} {h : Heap} : faE Try.prog 84 (.pointer (some ⟨b, o, none⟩)) 2 h = some (.pointer (some ⟨b, o + 10, none⟩)) := fa_of (off := 10) (by kernel_rfl)
theorem fa_89_0 {b o : Nat} {h : Heap} : faE Try.prog 89 (.pointer (some ⟨b, o, none⟩)) 0 h = some (.pointer (some ⟨b, o, none⟩)) := fa_of (off := 0) (by kernel_rfl)
theorem fa_89_1 {b o : Nat} {h : Heap} : faE Try.prog 89 (.pointer (some ⟨b, o, none⟩)) 1 h = some (.pointer (some ⟨b, o + 1, none⟩)) := fa_of (off := 1) (by kernel_rfl)
theorem fa_89_2 {b o : Nat} {h : Heap} : faE Try.prog 89 (.pointer (some ⟨b, o, none⟩)) 2 h = some (.pointer (some ⟨b, o + 2, none⟩)) := fa_of (off := 2) (by kernel_rfl)
theorem fa_89_3 {b o : Nat} {h : Heap} : faE Try.prog 89 (.pointer (some ⟨b, o, none⟩)) 3 h = some (.pointer (some ⟨b, o + 3, none⟩)) := fa_of (off := 3) (by kernel_rfl)
theorem fa_94_0 {b o : Nat} {h : Heap} : faE Try.prog 94 (.pointer (some ⟨b, o, none⟩)) 0 h = some (.pointer (some ⟨b, o, none⟩)) := fa_of (off := 0) (by kernel_rfl)
theorem fa_94_1 {b o : Nat} {h : Heap} : faE Try.prog 94 (.pointer (some ⟨b, o, none⟩)) 1 h = some (.pointer (some ⟨b, o + 9, none⟩)) := fa_of (off := 9) (by kernel_rfl)
theorem ia_22 {b o n c : Nat} {k : IntKind} {i : Int} {h : Heap} (h0 : 0 ≤ i) (h1 : i < n) : iaE Try.prog 22 (.slice (some ⟨b, o, none⟩) n c) (.int k i) h = some (.pointer (some ⟨b, o + i.toNat * 5, none⟩)) := ia_of (by kernel_rfl) h0 h1
theorem ia_23 {b o n c : Nat} {k : IntKind} {i : Int} {h : Heap} (h0 : 0 ≤ i) (h1 : i < n) : iaE Try.prog 23 (.slice (some ⟨b, o, none⟩) n c) (.int k i) h = some (.pointer (some ⟨b, o + i.toNat * 3, none⟩)) := ia_of (by kernel_rfl) h0 h1
theorem ia_26 {b o n c : Nat} {k : IntKind} {i : Int} {h : Heap} (h0 : 0 ≤ i) (h1 : i < n) : iaE Try.prog 26 (.slice (some ⟨b, o, none⟩) n c) (.int k i) h = some (.pointer (some ⟨b, o + i.toNat * 3, none⟩)) := ia_of (by kernel_rfl) h0 h1
theorem ia_39 {b o n c : Nat} {k : IntKind} {i : Int} {h : Heap} (h0 : 0 ≤ i) (h1 : i < n) : iaE Try.prog 39 (.slice (some ⟨b, o, none⟩) n c) (.int k i) h = some (.pointer (some ⟨b, o + i.toNat * 1, none⟩)) := ia_of (by kernel_rfl) h0 h1
theorem ia_40 {b o n c : Nat} {k : IntKind} {i : Int} {h : Heap} (h0 : 0 ≤ i) (h1 : i < n) : iaE Try.prog 40 (.slice (some ⟨b, o, none⟩) n c) (.int k i) h = some (.pointer (some ⟨b, o + i.toNat * 4, none⟩)) := ia_of (by kernel_rfl) h0 h1
theorem ia_41 {b o n c : Nat} {k : IntKind} {i : Int} {h : Heap} (h0 : 0 ≤ i) (h1 : i < n) : iaE Try.prog 41 (.slice (some ⟨b, o, none⟩) n c) (.int k i) h = some (.pointer (some ⟨b, o + i.toNat * 9, none⟩)) := ia_of (by kernel_rfl) h0 h1
theorem ia_69 {b o n c : Nat} {k : IntKind} {i : Int} {h : Heap} (h0 : 0 ≤ i) (h1 : i < n) : iaE Try.prog 69 (.slice (some ⟨b, o, none⟩) n c) (.int k i) h = some (.pointer (some ⟨b, o + i.toNat * 1, none⟩)) := ia_of (by kernel_rfl) h0 h1
theorem ia_77 {b o n c : Nat} {k : IntKind} {i : Int} {h : Heap} (h0 : 0 ≤ i) (h1 : i < n) : iaE Try.prog 77 (.slice (some ⟨b, o, none⟩) n c) (.int k i) h = some (.pointer (some ⟨b, o + i.toNat * 4, none⟩)) := ia_of (by kernel_rfl) h0 h1
theorem ix_9 {l : List UInt8} {k : IntKind} {i : Int} {h : Heap} (h0 : 0 ≤ i) (h1 : i < l.length) : ixE Try.prog 9 (str l) (.int k i) h = some (.int .u8 ((l.getD i.toNat 0).toNat : Int)) := ix_str Try.underlying9 h0 h1
theorem ldc_100 {a : Addr} {h : Heap} : ld Try.prog 100 a h = cellAt h a := ld_cell (by kernel_rfl)
theorem ldc_22 {a : Addr} {h : Heap} : ld Try.prog 22 a h = cellAt h a := ld_cell (by kernel_rfl)
theorem ldc_23 {a : Addr} {h : Heap} : ld Try.prog 23 a h = cellAt h a := ld_cell (by kernel_rfl)
theorem ldc_27 {a : Addr} {h : Heap} : ld Try.prog 27 a h = cellAt h a := ld_cell (by kernel_rfl)
theorem ldc_3 {a : Addr} {h : Heap} : ld Try.prog 3 a h = cellAt h a := ld_cell (by kernel_rfl)
theorem ldc_38 {a : Addr} {h : Heap} : ld Try.prog 38 a h = cellAt h a := ld_cell (by kernel_rfl)
theorem ldc_39 {a : Addr} {h : Heap} : ld Try.prog 39 a h = cellAt h a := ld_cell (by kernel_rfl)
theorem ldc_4 {a : Addr} {h : Heap} : ld Try.prog 4 a h = cellAt h a := ld_cell (by kernel_rfl)
theorem ldc_40 {a : Addr} {h : Heap} : ld Try.prog 40 a h = cellAt h a := ld_cell (by kernel_rfl)
theorem ldc_41 {a : Addr} {h : Heap} : ld Try.prog 41 a h = cellAt h a := ld_cell (by kernel_rfl)
theorem ldc_5 {a : Addr} {h : Heap} : ld Try.prog 5 a h = cellAt h a := ld_cell (by kernel_rfl)
theorem ldc_54 {a : Addr} {h : Heap} : ld Try.prog 54 a h = cellAt h a := ld_cell (by kernel_rfl)
theorem ldc_64 {a : Addr} {h : Heap} : ld Try.prog 64 a h = cellAt h a := ld_cell (by kernel_rfl)
theorem ldc_68 {a : Addr} {h : Heap} : ld Try.prog 68 a h = cellAt h a := ld_cell (by kernel_rfl)
theorem ldc_69 {a : Addr} {h : Heap} : ld Try.prog 69 a h = cellAt h a := ld_cell (by kernel_rfl)
theorem ldc_74 {a : Addr} {h : Heap} : ld Try.prog 74 a h = cellAt h a := ld_cell (by kernel_rfl)
theorem ldc_77 {a : Addr} {h : Heap} : ld Try.prog 77 a h = cellAt h a := ld_cell (by kernel_rfl)
theorem ldc_82 {a : Addr} {h : Heap} : ld Try.prog 82 a h = cellAt h a := ld_cell (by kernel_rfl)
theorem ldc_9 {a : Addr} {h : Heap} : ld Try.prog 9 a h = cellAt h a := ld_cell (by kernel_rfl)
theorem len_22 {ty : TypeId} {a : Option Addr} {n c : Nat} {h : Heap} : lenE Try.prog 22 ty (.slice a n c) h = some (.int .i64 n) := len_slice Try.underlying22
theorem len_23 {ty : TypeId} {a : Option Addr} {n c : Nat} {h : Heap} : lenE Try.prog 23 ty (.slice a n c) h = some (.int .i64 n) := len_slice Try.underlying23
theorem len_26 {ty : TypeId} {a : Option Addr} {n c : Nat} {h : Heap} : lenE Try.prog 26 ty (.slice a n c) h = some (.int .i64 n) := len_slice Try.underlying26
theorem len_39 {ty : TypeId} {a : Option Addr} {n c : Nat} {h : Heap} : lenE Try.prog 39 ty (.slice a n c) h = some (.int .i64 n) := len_slice Try.underlying39
theorem len_40 {ty : TypeId} {a : Option Addr} {n c : Nat} {h : Heap} : lenE Try.prog 40 ty (.slice a n c) h = some (.int .i64 n) := len_slice Try.underlying40
theorem len_41 {ty : TypeId} {a : Option Addr} {n c : Nat} {h : Heap} : lenE Try.prog 41 ty (.slice a n c) h = some (.int .i64 n) := len_slice Try.underlying41
theorem len_69 {ty : TypeId} {a : Option Addr} {n c : Nat} {h : Heap} : lenE Try.prog 69 ty (.slice a n c) h = some (.int .i64 n) := len_slice Try.underlying69
theorem len_77 {ty : TypeId} {a : Option Addr} {n c : Nat} {h : Heap} : lenE Try.prog 77 ty (.slice a n c) h = some (.int .i64 n) := len_slice Try.underlying77
theorem len_9 {ty : TypeId} {l : List UInt8} {h : Heap} : lenE Try.prog 9 ty (str l) h = some (.int .i64 l.length) := len_str Try.underlying9
theorem slT_134 : slT Try.prog 134 3 1 8 = true := by kernel_rfl
theorem slT_22 : slT Try.prog 22 76 5 40 = true := by kernel_rfl
theorem slT_23 : slT Try.prog 23 25 3 32 = true := by kernel_rfl
theorem slT_26 : slT Try.prog 26 35 3 56 = true := by kernel_rfl
theorem slT_39 : slT Try.prog 39 38 1 2 = true := by kernel_rfl
theorem slT_40 : slT Try.prog 40 89 4 8 = true := by kernel_rfl
theorem slT_41 : slT Try.prog 41 81 9 80 = true := by kernel_rfl
theorem slT_69 : slT Try.prog 69 5 1 1 = true := by kernel_rfl
theorem slT_77 : slT Try.prog 77 132 4 32 = true := by kernel_rfl
theorem slb_9 {l : List UInt8} {k k' : IntKind} {a b : Int} {h : Heap} (h0 : 0 ≤ a) (h1 : a ≤ b) (h2 : b ≤ l.length) : slE Try.prog 9 (str l) (some (.int k a)) (some (.int k' b)) none h = some (str ((l.take b.toNat).drop a.toNat)) := sl_str_lh Try.underlying9 h0 h1 h2
theorem slh_9 {l : List UInt8} {k : IntKind} {b : Int} {h : Heap} (h0 : 0 ≤ b) (h2 : b ≤ l.length) : slE Try.prog 9 (str l) none (some (.int k b)) none h = some (str (l.take b.toNat)) := sl_str_h Try.underlying9 h0 h2
theorem sll_9 {l : List UInt8} {k : IntKind} {a : Int} {h : Heap} (h0 : 0 ≤ a) (h2 : a ≤ l.length) : slE Try.prog 9 (str l) (some (.int k a)) none none h = some (str (l.drop a.toNat)) := sl_str_l Try.underlying9 h0 h2
theorem slzb_22 {a : Option Addr} {n c : Nat} {k k' : IntKind} {lo hi : Int} {h : Heap} (h0 : 0 ≤ lo) (h1 : lo ≤ hi) (h2 : hi ≤ c) : slE Try.prog 22 (.slice a n c) (some (.int k lo)) (some (.int k' hi)) none h = some (.slice (slA a c lo.toNat 5) (hi.toNat - lo.toNat) (c - lo.toNat)) := sl_sl_lh slT_22 h0 h1 h2
theorem slzb_23 {a : Option Addr} {n c : Nat} {k k' : IntKind} {lo hi : Int} {h : Heap} (h0 : 0 ≤ lo) (h1 : lo ≤ hi) (h2 : hi ≤ c) : slE Try.prog 23 (.slice a n c) (some (.int k lo)) (some (.int k' hi)) none h = some (.slice (slA a c lo.toNat 3) (hi.toNat - lo.toNat) (c - lo.toNat)) := sl_sl_lh slT_23 h0 h1 h2
theorem slzb_69 {a : Option Addr} {n c : Nat} {k k' : IntKind} {lo hi : Int} {h : Heap} (h0 : 0 ≤ lo) (h1 : lo ≤ hi) (h2 : hi ≤ c) : slE Try.prog 69 (.slice a n c) (some (.int k lo)) (some (.int k' hi)) none h = some (.slice (slA a c lo.toNat 1) (hi.toNat - lo.toNat) (c - lo.toNat)) := sl_sl_lh slT_69 h0 h1 h2
theorem slzh_22 {a : Option Addr} {n c : Nat} {k : IntKind} {hi : Int} {h : Heap} (h0 : 0 ≤ hi) (h1 : hi ≤ c) : slE Try.prog 22 (.slice a n c) none (some (.int k hi)) none h = some (.slice (slA a c 0 5) (hi.toNat - 0) (c - 0)) := sl_sl_h slT_22 h0 h1
theorem slzh_23 {a : Option Addr} {n c : Nat} {k : IntKind} {hi : Int} {h : Heap} (h0 : 0 ≤ hi) (h1 : hi ≤ c) : slE Try.prog 23 (.slice a n c) none (some (.int k hi)) none h = some (.slice (slA a c 0 3) (hi.toNat - 0) (c - 0)) := sl_sl_h slT_23 h0 h1
theorem slzh_69 {a : Option Addr} {n c : Nat} {k : IntKind} {hi : Int} {h : Heap} (h0 : 0 ≤ hi) (h1 : hi ≤ c) : slE Try.prog 69 (.slice a n c) none (some (.int k hi)) none h = some (.slice (slA a c 0 1) (hi.toNat - 0) (c - 0)) := sl_sl_h slT_69 h0 h1
theorem slzl_22 {a : Option Addr} {n c : Nat} {k : IntKind} {lo : Int} {h : Heap} (h0 : 0 ≤ lo) (h1 : lo ≤ n) : slE Try.prog 22 (.slice a n c) (some (.int k lo)) none none h = some (.slice (slA a c lo.toNat 5) (n - lo.toNat) (c - lo.toNat)) := sl_sl_l slT_22 h0 h1
theorem slzl_23 {a : Option Addr} {n c : Nat} {k : IntKind} {lo : Int} {h : Heap} (h0 : 0 ≤ lo) (h1 : lo ≤ n) : slE Try.prog 23 (.slice a n c) (some (.int k lo)) none none h = some (.slice (slA a c lo.toNat 3) (n - lo.toNat) (c - lo.toNat)) := sl_sl_l slT_23 h0 h1
theorem slzl_69 {a : Option Addr} {n c : Nat} {k : IntKind} {lo : Int} {h : Heap} (h0 : 0 ≤ lo) (h1 : lo ≤ n) : slE Try.prog 69 (.slice a n c) (some (.int k lo)) none none h = some (.slice (slA a c lo.toNat 1) (n - lo.toNat) (c - lo.toNat)) := sl_sl_l slT_69 h0 h1
theorem zr_132 : zrT Try.prog 132 #[.int .i64 0, .int .i64 0, .int .i64 0, .int .u16 0] := by unfold zrT; kernel_rfl
theorem zr_22 : zrT Try.prog 22 #[.slice none 0 0] := by unfold zrT; kernel_rfl
theorem zr_23 : zrT Try.prog 23 #[.slice none 0 0] := by unfold zrT; kernel_rfl
theorem zr_25 : zrT Try.prog 25 #[.int .u8 0, str [], .int .i64 0] := by unfold zrT; kernel_rfl
theorem zr_27 : zrT Try.prog 27 #[.int .i64 0] := by unfold zrT; kernel_rfl
theorem zr_3 : zrT Try.prog 3 #[.int .i64 0] := by unfold zrT; kernel_rfl
theorem zr_35 : zrT Try.prog 35 #[.int .i64 0, .slice none 0 0, .slice none 0 0] := by unfold zrT; kernel_rfl
theorem zr_38 : zrT Try.prog 38 #[.int .u16 0] := by unfold zrT; kernel_rfl
theorem zr_39 : zrT Try.prog 39 #[.slice none 0 0] := by unfold zrT; kernel_rfl
theorem zr_4 : zrT Try.prog 4 #[.bool false] := by unfold zrT; kernel_rfl
theorem zr_40 : zrT Try.prog 40 #[.slice none 0 0] := by unfold zrT; kernel_rfl
theorem zr_41 : zrT Try.prog 41 #[.slice none 0 0] := by unfold zrT; kernel_rfl
theorem zr_43 : zrT Try.prog 43 #[.int .u16 0, .int .u16 0, .int .u16 0, .int .u16 0, .int .u16 0, .slice none 0 0, .slice none 0 0, .slice none 0 0, .slice none 0 0] := by unfold zrT; kernel_rfl
theorem zr_5 : zrT Try.prog 5 #[.int .u8 0] := by unfold zrT; kernel_rfl
theorem zr_69 : zrT Try.prog 69 #[.slice none 0 0] := by unfold zrT; kernel_rfl
theorem zr_74 : zrT Try.prog 74 #[.int .u64 0] := by unfold zrT; kernel_rfl
theorem zr_76 : zrT Try.prog 76 #[.int .u8 0, str [], .int .u64 0, .int .u16 0, .int .u16 0] := by unfold zrT; kernel_rfl
theorem zr_77 : zrT Try.prog 77 #[.slice none 0 0] := by unfold zrT; kernel_rfl
theorem zr_79 : zrT Try.prog 79 #[.int .i64 0, .int .i64 0, str [], .slice none 0 0, str []] := by unfold zrT; kernel_rfl
theorem zr_81 : zrT Try.prog 81 #[.int .u16 0, .int .u16 0, .int .u16 0, .bool false, .int .i64 0, .int .i64 0, str [], .slice none 0 0, str []] := by unfold zrT; kernel_rfl
theorem zr_82 : zrT Try.prog 82 #[.pointer none] := by unfold zrT; kernel_rfl
theorem zr_89 : zrT Try.prog 89 #[.int .u16 0, .int .u16 0, .int .u16 0, .int .u16 0] := by unfold zrT; kernel_rfl
theorem zr_9 : zrT Try.prog 9 #[str []] := by unfold zrT; kernel_rfl
def ts := And.intro @able_10 (And.intro @able_11 (And.intro @able_12 (And.intro @able_13 (And.intro @able_14 (And.intro @able_15 (And.intro @able_16 (And.intro @able_17 (And.intro @able_18 (And.intro @able_19 (And.intro @able_20 (And.intro @able_21 (And.intro @able_22 (And.intro @able_23 (And.intro @able_24 (And.intro @able_25 (And.intro @able_26 (And.intro @able_27 (And.intro @able_28 (And.intro @able_29 (And.intro @able_3 (And.intro @able_30 (And.intro @able_31 (And.intro @able_32 (And.intro @able_33 (And.intro @able_34 (And.intro @able_35 (And.intro @able_36 (And.intro @able_37 (And.intro @able_38 (And.intro @able_39 (And.intro @able_4 (And.intro @able_40 (And.intro @able_41 (And.intro @able_42 (And.intro @able_43 (And.intro @able_44 (And.intro @able_45 (And.intro @able_46 (And.intro @able_47 (And.intro @able_48 (And.intro @able_49 (And.intro @able_5 (And.intro @able_50 (And.intro @able_51 (And.intro @able_52 (And.intro @able_53 (And.intro @able_54 (And.intro @able_55 (And.intro @able_56 (And.intro @able_57 (And.intro @able_58 (And.intro @able_59 (And.intro @able_6 (And.intro @able_60 (And.intro @able_61 (And.intro @able_62 (And.intro @able_63 (And.intro @able_64 (And.intro @able_65 (And.intro @able_66 (And.intro @able_67 (And.intro @able_68 (And.intro @able_69 (And.intro @able_7 (And.intro @able_70 (And.intro @able_71 (And.intro @able_72 (And.intro @able_73 (And.intro @able_74 (And.intro @able_75 (And.intro @able_76 (And.intro @able_77 (And.intro @able_78 (And.intro @able_79 (And.intro @able_8 (And.intro @able_80 (And.intro @able_81 (And.intro @able_82 (And.intro @able_83 (And.intro @able_84 (And.intro @able_85 (And.intro @able_86 (And.intro @able_87 (And.intro @able_88 (And.intro @able_89 (And.intro @able_9 (And.intro @able_90 (And.intro @able_91 (And.intro @able_92 (And.intro @bb_neq_4 (And.intro @bl_102_0 (And.intro @bl_112_0 (And.intro @bl_120_0 (And.intro @bl_132 (And.intro @bl_132_0_1_2_3 (And.intro @bl_25_0 (And.intro @bl_25_0_2 (And.intro @bl_35_1 (And.intro @bl_43 (And.intro @bl_43_1_2_5_3_4_7_8 (And.intro @bl_66_0 (And.intro @bl_71_1 (And.intro @bl_76 (And.intro @bl_76_0 (And.intro @bl_76_0_1 (And.intro @bl_76_0_3 (And.intro @bl_79 (And.intro @bl_79_0_1 (And.intro @bl_79_0_2 (And.intro @bl_81 (And.intro @bl_81_0_1_2 (And.intro @bl_81_0_1_2_3_4 (And.intro @bl_84_1 (And.intro @bl_89 (And.intro @bl_89_0_1_2 (And.intro @bl_94_0 (And.intro @cv_38_3 (And.intro @cv_38_74 (And.intro @cv_3_38 (And.intro @cv_3_5 (And.intro @cv_3_74 (And.intro @cv_5_3 (And.intro @cv_5_38 (And.intro @cv_5_74 (And.intro @cv_74_3 (And.intro @cv_74_38 (And.intro @cv_74_5 (And.intro @cvl1_69_9 (And.intro @cvl2_69_9 (And.intro @cvl3_69_9 (And.intro @cvn_69_9 (And.intro @fa_102_0 (And.intro @fa_102_1 (And.intro @fa_112_0 (And.intro @fa_112_1 (And.intro @fa_120_0 (And.intro @fa_120_1 (And.intro @fa_120_2 (And.intro @fa_120_3 (And.intro @fa_132_0 (And.intro @fa_132_1 (And.intro @fa_132_2 (And.intro @fa_132_3 (And.intro @fa_25_0 (And.intro @fa_25_1 (And.intro @fa_25_2 (And.intro @fa_35_0 (And.intro @fa_35_1 (And.intro @fa_35_2 (And.intro @fa_43_0 (And.intro @fa_43_1 (And.intro @fa_43_2 (And.intro @fa_43_3 (And.intro @fa_43_4 (And.intro @fa_43_5 (And.intro @fa_43_6 (And.intro @fa_43_7 (And.intro @fa_43_8 (And.intro @fa_66_0 (And.intro @fa_66_1 (And.intro @fa_66_2 (And.intro @fa_66_3 (And.intro @fa_71_0 (And.intro @fa_71_1 (And.intro @fa_71_2 (And.intro @fa_76_0 (And.intro @fa_76_1 (And.intro @fa_76_2 (And.intro @fa_76_3 (And.intro @fa_76_4 (And.intro @fa_79_0 (And.intro @fa_79_1 (And.intro @fa_79_2 (And.intro @fa_79_3 (And.intro @fa_79_4 (And.intro @fa_81_0 (And.intro @fa_81_1 (And.intro @fa_81_2 (And.intro @fa_81_3 (And.intro @fa_81_4 (And.intro @fa_84_0 (And.intro @fa_84_1 (And.intro @fa_84_2 (And.intro @fa_89_0 (And.intro @fa_89_1 (And.intro @fa_89_2 (And.intro @fa_89_3 (And.intro @fa_94_0 (And.intro @fa_94_1 (And.intro @ia_22 (And.intro @ia_23 (And.intro @ia_26 (And.intro @ia_39 (And.intro @ia_40 (And.intro @ia_41 (And.intro @ia_69 (And.intro @ia_77 (And.intro @ix_9 (And.intro @ldc_100 (And.intro @ldc_22 (And.intro @ldc_23 (And.intro @ldc_27 (And.intro @ldc_3 (And.intro @ldc_38 (And.intro @ldc_39 (And.intro @ldc_4 (And.intro @ldc_40 (And.intro @ldc_41 (And.intro @ldc_5 (And.intro @ldc_54 (And.intro @ldc_64 (And.intro @ldc_68 (And.intro @ldc_69 (And.intro @ldc_74 (And.intro @ldc_77 (And.intro @ldc_82 (And.intro @ldc_9 (And.intro @len_22 (And.intro @len_23 (And.intro @len_26 (And.intro @len_39 (And.intro @len_40 (And.intro @len_41 (And.intro @len_69 (And.intro @len_77 (And.intro @len_9 (And.intro @slb_9 (And.intro @slh_9 (And.intro @sll_9 (And.intro @slzb_22 (And.intro @slzb_23 (And.intro @slzb_69 (And.intro @slzh_22 (And.intro @slzh_23 (And.intro @slzh_69 (And.intro @slzl_22 (And.intro @slzl_23 (@slzl_69))))))))))))))))))))))))))))))))))))))))))))))))))))))))))))))))))))))))))))))))))))))))))))))))))))))))))))))))))))))))))))))))))))))))))))))))))))))))))))))))))))))))))))))))))))))))))))))))))))))))))))))))))))))))))))))))))))))))))))))
def tv := And.intro vs (And.intro Go.Vc.vk ts)
end Go.Proofs.Ytohkbpnblkkdgaa.T

/- Facts on the types of this seat's program, printed by a program. No condition. -/
import Derived.Test.YtflocjbhcjhenaaGreatDoorProg
import Derived.Test.YtflocjbhcjhenaaGreatDoorVcS
set_option linter.unusedSimpArgs false
set_option linter.unusedVariables false
set_option maxRecDepth 100000
set_option linter.defProp false
namespace Go.Proofs.YtflocjbhcjhenaaGreatDoor.T
open Go.Vc
theorem able_10 : callable Tryz.prog 10 = true := by kernel_rfl
theorem able_100 : callable Tryz.prog 100 = true := by kernel_rfl
theorem able_101 : callable Tryz.prog 101 = true := by kernel_rfl
theorem able_102 : callable Tryz.prog 102 = true := by kernel_rfl
theorem able_103 : callable Tryz.prog 103 = true := by kernel_rfl
theorem able_105 : callable Tryz.prog 105 = true := by kernel_rfl
theorem able_106 : callable Tryz.prog 106 = true := by kernel_rfl
theorem able_108 : callable Tryz.prog 108 = true := by kernel_rfl
theorem able_11 : callable Tryz.prog 11 = true := by kernel_rfl
theorem able_111 : callable Tryz.prog 111 = true := by kernel_rfl
theorem able_112 : callable Tryz.prog 112 = true := by kernel_rfl
theorem able_113 : callable Tryz.prog 113 = true := by kernel_rfl
theorem able_114 : callable Tryz.prog 114 = true := by kernel_rfl
theorem able_115 : callable Tryz.prog 115 = true := by kernel_rfl
theorem able_116 : callable Tryz.prog 116 = true := by kernel_rfl
theorem able_12 : callable Tryz.prog 12 = true := by kernel_rfl
theorem able_120 : callable Tryz.prog 120 = true := by kernel_rfl
theorem able_13 : callable Tryz.prog 13 = true := by kernel_rfl
theorem able_14 : callable Tryz.prog 14 = true := by kernel_rfl
theorem able_15 : callable Tryz.prog 15 = true := by kernel_rfl
theorem able_16 : callable Tryz.prog 16 = true := by kernel_rfl
theorem able_17 : callable Tryz.prog 17 = true := by kernel_rfl
theorem able_18 : callable Tryz.prog 18 = true := by kernel_rfl
theorem able_19 : callable Tryz.prog 19 = true := by kernel_rfl
theorem able_20 : callable Tryz.prog 20 = true := by kernel_rfl
theorem able_21 : callable Tryz.prog 21 = true := by kernel_rfl
theorem able_22 : callable Tryz.prog 22 = true := by kernel_rfl
theorem able_23 : callable Tryz.prog 23 = true := by kernel_rfl
theorem able_24 : callable Tryz.prog 24 = true := by kernel_rfl
theorem able_25 : callable Tryz.prog 25 = true := by kernel_rfl
theorem able_26 : callable Tryz.prog 26 = true := by kernel_rfl
theorem able_27 : callable Tryz.prog 27 = true := by kernel_rfl
theorem able_28 : callable Tryz.prog 28 = true := by kernel_rfl
theorem able_29 : callable Tryz.prog 29 = true := by kernel_rfl
theorem able_3 : callable Tryz.prog 3 = true := by kernel_rfl
theorem able_30 : callable Tryz.prog 30 = true := by kernel_rfl
theorem able_31 : callable Tryz.prog 31 = true := by kernel_rfl
theorem able_32 : callable Tryz.prog 32 = true := by kernel_rfl
theorem able_33 : callable Tryz.prog 33 = true := by kernel_rfl
theorem able_34 : callable Tryz.prog 34 = true := by kernel_rfl
theorem able_35 : callable Tryz.prog 35 = true := by kernel_rfl
theorem able_36 : callable Tryz.prog 36 = true := by kernel_rfl
theorem able_37 : callable Tryz.prog 37 = true := by kernel_rfl
theorem able_38 : callable Tryz.prog 38 = true := by kernel_rfl
theorem able_39 : callable Tryz.prog 39 = true := by kernel_rfl
theorem able_4 : callable Tryz.prog 4 = true := by kernel_rfl
theorem able_40 : callable Tryz.prog 40 = true := by kernel_rfl
theorem able_41 : callable Tryz.prog 41 = true := by kernel_rfl
theorem able_42 : callable Tryz.prog 42 = true := by kernel_rfl
theorem able_43 : callable Tryz.prog 43 = true := by kernel_rfl
theorem able_44 : callable Tryz.prog 44 = true := by kernel_rfl
theorem able_45 : callable Tryz.prog 45 = true := by kernel_rfl
theorem able_46 : callable Tryz.prog 46 = true := by kernel_rfl
theorem able_47 : callable Tryz.prog 47 = true := by kernel_rfl
theorem able_48 : callable Tryz.prog 48 = true := by kernel_rfl
theorem able_49 : callable Tryz.prog 49 = true := by kernel_rfl
theorem able_5 : callable Tryz.prog 5 = true := by kernel_rfl
theorem able_50 : callable Tryz.prog 50 = true := by kernel_rfl
theorem able_51 : callable Tryz.prog 51 = true := by kernel_rfl
theorem able_52 : callable Tryz.prog 52 = true := by kernel_rfl
theorem able_53 : callable Tryz.prog 53 = true := by kernel_rfl
theorem able_54 : callable Tryz.prog 54 = true := by kernel_rfl
theorem able_55 : callable Tryz.prog 55 = true := by kernel_rfl
theorem able_56 : callable Tryz.prog 56 = true := by kernel_rfl
theorem able_57 : callable Tryz.prog 57 = true := by kernel_rfl
theorem able_58 : callable Tryz.prog 58 = true := by kernel_rfl
theorem able_59 : callable Tryz.prog 59 = true := by kernel_rfl
theorem able_6 : callable Tryz.prog 6 = true := by kernel_rfl
theorem able_60 : callable Tryz.prog 60 = true := by kernel_rfl
theorem able_61 : callable Tryz.prog 61 = true := by kernel_rfl
theorem able_62 : callable Tryz.prog 62 = true := by kernel_rfl
theorem able_63 : callable Tryz.prog 63 = true := by kernel_rfl
theorem able_64 : callable Tryz.prog 64 = true := by kernel_rfl
theorem able_65 : callable Tryz.prog 65 = true := by kernel_rfl
theorem able_66 : callable Tryz.prog 66 = true := by kernel_rfl
theorem able_67 : callable Tryz.prog 67 = true := by kernel_rfl
theorem able_68 : callable Tryz.prog 68 = true := by kernel_rfl
theorem able_69 : callable Tryz.prog 69 = true := by kernel_rfl
theorem able_7 : callable Tryz.prog 7 = true := by kernel_rfl
theorem able_70 : callable Tryz.prog 70 = true := by kernel_rfl
theorem able_71 : callable Tryz.prog 71 = true := by kernel_rfl
theorem able_72 : callable Tryz.prog 72 = true := by kernel_rfl
theorem able_73 : callable Tryz.prog 73 = true := by kernel_rfl
theorem able_74 : callable Tryz.prog 74 = true := by kernel_rfl
theorem able_75 : callable Tryz.prog 75 = true := by kernel_rfl
theorem able_76 : callable Tryz.prog 76 = true := by kernel_rfl
theorem able_77 : callable Tryz.prog 77 = true := by kernel_rfl
theorem able_78 : callable Tryz.prog 78 = true := by kernel_rfl
theorem able_79 : callable Tryz.prog 79 = true := by kernel_rfl
theorem able_8 : callable Tryz.prog 8 = true := by kernel_rfl
theorem able_80 : callable Tryz.prog 80 = true := by kernel_rfl
theorem able_81 : callable Tryz.prog 81 = true := by kernel_rfl
theorem able_82 : callable Tryz.prog 82 = true := by kernel_rfl
theorem able_83 : callable Tryz.prog 83 = true := by kernel_rfl
theorem able_84 : callable Tryz.prog 84 = true := by kernel_rfl
theorem able_85 : callable Tryz.prog 85 = true := by kernel_rfl
theorem able_86 : callable Tryz.prog 86 = true := by kernel_rfl
theorem able_87 : callable Tryz.prog 87 = true := by kernel_rfl
theorem able_88 : callable Tryz.prog 88 = true := by kernel_rfl
theorem able_89 : callable Tryz.prog 89 = true := by kernel_rfl
theorem able_9 : callable Tryz.prog 9 = true := by kernel_rfl
theorem able_90 : callable Tryz.prog 90 = true := by kernel_rfl
theorem able_91 : callable Tryz.prog 91 = true := by kernel_rfl
theorem able_92 : callable Tryz.prog 92 = true := by kernel_rfl
theorem able_93 : callable Tryz.prog 93 = true := by kernel_rfl
theorem able_94 : callable Tryz.prog 94 = true := by kernel_rfl
theorem able_95 : callable Tryz.prog 95 = true := by kernel_rfl
theorem able_96 : callable Tryz.prog 96 = true := by kernel_rfl
theorem able_97 : callable Tryz.prog 97 = true := by kernel_rfl
theorem able_98 : callable Tryz.prog 98 = true := by kernel_rfl
theorem able_99 : callable Tryz.prog 99 = true := by kernel_rfl
theorem ag_110 : aggT Tryz.prog 110 1 = true := by kernel_rfl
theorem ag_125 : aggT Tryz.prog 125 256 = true := by kernel_rfl
theorem ag_28 : aggT Tryz.prog 28 9 = true := by kernel_rfl
theorem ag_38 : aggT Tryz.prog 38 5 = true := by kernel_rfl
theorem ag_41 : aggT Tryz.prog 41 5 = true := by kernel_rfl
theorem ag_43 : aggT Tryz.prog 43 9 = true := by kernel_rfl
theorem ag_46 : aggT Tryz.prog 46 1 = true := by kernel_rfl
theorem ag_51 : aggT Tryz.prog 51 4 = true := by kernel_rfl
theorem ag_86 : aggT Tryz.prog 86 4 = true := by kernel_rfl
theorem ag_98 : aggT Tryz.prog 98 8 = true := by kernel_rfl
theorem bb_eql_4 {x y : Operand} {a b : Bool} {h : Heap} : binE Tryz.prog .eql 4 x y (.bool a) (.bool b) h = some (.bool (decide (a = b))) := bin_bool_eql Tryz.underlying4
theorem bb_neq_4 {x y : Operand} {a b : Bool} {h : Heap} : binE Tryz.prog .neq 4 x y (.bool a) (.bool b) h = some (.bool (decide (a ≠ b))) := bin_bool_neq Tryz.underlying4
theorem bl_110_0 {p0 : Option Addr} {h : Heap} : bldE Tryz.prog 110 [0] [.pointer p0] h = some (.agg #[.pointer p0]) := bldE_of (by kernel_rfl)
theorem bl_120_0 {l0 : List UInt8} {h : Heap} : bldE Tryz.prog 120 [0] [str l0] h = some (.agg #[str l0, .int .i64 0, .int .i64 0, .int .i64 0]) := bldE_of (by kernel_rfl)
theorem bl_130_0 {l0 : List UInt8} {h : Heap} : bldE Tryz.prog 130 [0] [str l0] h = some (.agg #[str l0, .int .i64 0, .int .i64 0, .int .i64 0]) := bldE_of (by kernel_rfl)
theorem bl_46_0 {p0 : Option Addr} {h : Heap} : bldE Tryz.prog 46 [0] [.pointer p0] h = some (.agg #[.pointer p0]) := bldE_of (by kernel_rfl)
theorem bl_57_0 {u0_0 u0_1 u0_2 u0_3 u0_4 u0_5 u0_6 u0_7 u0_8 : Value} {h : Heap} : bldE Tryz.prog 57 [0] [.agg #[u0_0, u0_1, u0_2, u0_3, u0_4, u0_5, u0_6, u0_7, u0_8]] h = some (.agg #[u0_0, u0_1, u0_2, u0_3, u0_4, u0_5, u0_6, u0_7, u0_8]) := bldE_of (by kernel_rfl)
theorem bl_70  {h : Heap} : bldE Tryz.prog 70 [] [] h = some (.agg #[]) := bldE_of (by kernel_rfl)
theorem bl_98_0 {n0 : Int} {h : Heap} : bldE Tryz.prog 98 [0] [.int .i64 n0] h = some (.agg #[.int .i64 n0, .int .u8 0, .bool false, .int .i64 0, .int .i64 0, .int .i64 0, .slice none 0 0, .slice none 0 0]) := bldE_of (by kernel_rfl)
theorem bl_98_0_1 {n0 : Int} {n1 : Int} {h : Heap} : bldE Tryz.prog 98 [0, 1] [.int .i64 n0, .int .u8 n1] h = some (.agg #[.int .i64 n0, .int .u8 n1, .bool false, .int .i64 0, .int .i64 0, .int .i64 0, .slice none 0 0, .slice none 0 0]) := bldE_of (by kernel_rfl)
theorem cv_21_5 {k : IntKind} {n : Int} {h : Heap} : cvE Tryz.prog 21 5 (.int k n) h = some (.int .u8 (IntKind.u8.wrap n)) := cv_int Tryz.underlying21 Tryz.underlying5
theorem cv_22_3 {k : IntKind} {n : Int} {h : Heap} : cvE Tryz.prog 22 3 (.int k n) h = some (.int .i64 (IntKind.i64.wrap n)) := cv_int Tryz.underlying22 Tryz.underlying3
theorem cv_36_3 {k : IntKind} {n : Int} {h : Heap} : cvE Tryz.prog 36 3 (.int k n) h = some (.int .i64 (IntKind.i64.wrap n)) := cv_int Tryz.underlying36 Tryz.underlying3
theorem cv_3_22 {k : IntKind} {n : Int} {h : Heap} : cvE Tryz.prog 3 22 (.int k n) h = some (.int .u16 (IntKind.u16.wrap n)) := cv_int Tryz.underlying3 Tryz.underlying22
theorem cv_3_5 {k : IntKind} {n : Int} {h : Heap} : cvE Tryz.prog 3 5 (.int k n) h = some (.int .u8 (IntKind.u8.wrap n)) := cv_int Tryz.underlying3 Tryz.underlying5
theorem cv_5_21 {k : IntKind} {n : Int} {h : Heap} : cvE Tryz.prog 5 21 (.int k n) h = some (.int .i32 (IntKind.i32.wrap n)) := cv_int Tryz.underlying5 Tryz.underlying21
theorem cv_5_3 {k : IntKind} {n : Int} {h : Heap} : cvE Tryz.prog 5 3 (.int k n) h = some (.int .i64 (IntKind.i64.wrap n)) := cv_int Tryz.underlying5 Tryz.underlying3
theorem cv_5_36 {k : IntKind} {n : Int} {h : Heap} : cvE Tryz.prog 5 36 (.int k n) h = some (.int .u64 (IntKind.u64.wrap n)) := cv_int Tryz.underlying5 Tryz.underlying36
theorem cvl1_136_9 {k : Nat} {a : Int} {h : Heap} {e : TypeId} {fz : Nat × Nat} : cvE Tryz.prog 136 9 (.slice (some ⟨h.size, 0, none⟩) 1 k) (h.push (.cells #[.int .u8 a] e fz)) = some (str [UInt8.ofNat a.toNat]) := cv_lit1 Tryz.underlying136 Tryz.underlying5 Tryz.underlying9
theorem cvl2_136_9 {k : Nat} {a b : Int} {h : Heap} {e : TypeId} {fz : Nat × Nat} : cvE Tryz.prog 136 9 (.slice (some ⟨h.size, 0, none⟩) 2 k) (h.push (.cells #[.int .u8 a, .int .u8 b] e fz)) = some (str [UInt8.ofNat a.toNat, UInt8.ofNat b.toNat]) := cv_lit2 Tryz.underlying136 Tryz.underlying5 Tryz.underlying9
theorem cvl3_136_9 {k : Nat} {a b c : Int} {h : Heap} {e : TypeId} {fz : Nat × Nat} : cvE Tryz.prog 136 9 (.slice (some ⟨h.size, 0, none⟩) 3 k) (h.push (.cells #[.int .u8 a, .int .u8 b, .int .u8 c] e fz)) = some (str [UInt8.ofNat a.toNat, UInt8.ofNat b.toNat, UInt8.ofNat c.toNat]) := cv_lit3 Tryz.underlying136 Tryz.underlying5 Tryz.underlying9
theorem cvn_136_9 {n c : Nat} {h : Heap} : cvE Tryz.prog 136 9 (.slice none n c) h = some (str []) := cv_bytes_nil Tryz.underlying136 Tryz.underlying5 Tryz.underlying9
theorem cvo_136_9 {base n : Nat} {e : TypeId} {v : Value} {l : List UInt8} {h : Heap} (H : Own h base e 1 v n (bytesV l)) : cvE Tryz.prog 136 9 v h = some (str l) := cv_own Tryz.underlying136 Tryz.underlying5 Tryz.underlying9 H
theorem fa_110_0 {b o : Nat} {h : Heap} : faE Tryz.prog 110 (.pointer (some ⟨b, o, none⟩)) 0 h = some (.pointer (some ⟨b, o, none⟩)) := fa_of (off := 0) (by kernel_rfl)
theorem fa_120_0 {b o : Nat} {h : Heap} : faE Tryz.prog 120 (.pointer (some ⟨b, o, none⟩)) 0 h = some (.pointer (some ⟨b, o, none⟩)) := fa_of (off := 0) (by kernel_rfl)
theorem fa_120_1 {b o : Nat} {h : Heap} : faE Tryz.prog 120 (.pointer (some ⟨b, o, none⟩)) 1 h = some (.pointer (some ⟨b, o + 1, none⟩)) := fa_of (off := 1) (by kernel_rfl)
theorem fa_120_2 {b o : Nat} {h : Heap} : faE Tryz.prog 120 (.pointer (some ⟨b, o, none⟩)) 2 h = some (.pointer (some ⟨b, o + 2, none⟩)) := fa_of (off := 2) (by kernel_rfl)
theorem fa_120_3 {b o : Nat} {h : Heap} : faE Tryz.prog 120 (.pointer (some ⟨b, o, none⟩)) 3 h = some (.pointer (some ⟨b, o + 3, none⟩)) := fa_of (off := 3) (by kernel_rfl)
theorem fa_130_0 {b o : Nat} {h : Heap} : faE Tryz.prog 130 (.pointer (some ⟨b, o, none⟩)) 0 h = some (.pointer (some ⟨b, o, none⟩)) := fa_of (off := 0) (by kernel_rfl)
theorem fa_130_1 {b o : Nat} {h : Heap} : faE Tryz.prog 130 (.pointer (some ⟨b, o, none⟩)) 1 h = some (.pointer (some ⟨b, o + 1, none⟩)) := fa_of (off := 1) (by kernel_rfl)
theorem fa_130_2 {b o : Nat} {h : Heap} : faE Tryz.prog 130 (.pointer (some ⟨b, o, none⟩)) 2 h = some (.pointer (some ⟨b, o + 2, none⟩)) := fa_of (off := 2) (by kernel_rfl)
theorem fa_130_3 {b o : Nat} {h : Heap} : faE Tryz.prog 130 (.pointer (some ⟨b, o, none⟩)) 3 h = some (.pointer (some ⟨b, o + 3, none⟩)) := fa_of (off := 3) (by kernel_rfl)
theorem fa_28_0 {b o : Nat} {h : Heap} : faE Tryz.prog 28 (.pointer (some ⟨b, o, none⟩)) 0 h = some (.pointer (some ⟨b, o, none⟩)) := fa_of (off := 0) (by kernel_rfl)
theorem fa_28_1 {b o : Nat} {h : Heap} : faE Tryz.prog 28 (.pointer (some ⟨b, o, none⟩)) 1 h = some (.pointer (some ⟨b, o + 1, none⟩)) := fa_of (off := 1) (by kernel_rfl)
theorem fa_28_2 {b o : Nat} {h : Heap} : faE Tryz.prog 28 (.pointer (some ⟨b, o, none⟩)) 2 h = some (.pointer (some ⟨b, o + 2, none⟩)) := fa_of (off := 2) (by kernel_rfl)
theorem fa_28_3 {b o : Nat} {h : Heap} : faE Tryz.prog 28 (.pointer (some ⟨b, o, none⟩)) 3 h = some (.pointer (some ⟨b, o + 3, none⟩)) := fa_of (off := 3) (by kernel_rfl)
theorem fa_28_4 {b o : Nat} {h : Heap} : faE Tryz.prog 28 (.pointer (some ⟨b, o, none⟩)) 4 h = some (.pointer (some ⟨b, o + 4, none⟩)) := fa_of (off := 4) (by kernel_rfl)
theorem fa_28_5 {b o : Nat} {h : Heap} : faE Tryz.prog 28 (.pointer (some ⟨b, o, none⟩)) 5 h = some (.pointer (some ⟨b, o + 5, none⟩)) := fa_of (off := 5) (by kernel_rfl)
theorem fa_28_6 {b o : Nat} {h : Heap} : faE Tryz.prog 28 (.pointer (some ⟨b, o, none⟩)) 6 h = some (.pointer (some ⟨b, o + 6, none⟩)) := fa_of (off := 6) (by kernel_rfl)
theorem fa_28_7 {b o : Nat} {h : Heap} : faE Tryz.prog 28 (.pointer (some ⟨b, o, none⟩)) 7 h = some (.pointer (some ⟨b, o + 7, none⟩)) := fa_of (off := 7) (by kernel_rfl)
theorem fa_28_8 {b o : Nat} {h : Heap} : faE Tryz.prog 28 (.pointer (some ⟨b, o, none⟩)) 8 h = some (.pointer (some ⟨b, o + 8, none⟩)) := fa_of (off := 8) (by kernel_rfl)
theorem fa_38_0 {b o : Nat} {h : Heap} : faE Tryz.prog 38 (.pointer (some ⟨b, o, none⟩)) 0 h = some (.pointer (some ⟨b, o, none⟩)) := fa_of (off := 0) (by kernel_rfl)
theorem fa_38_1 {b o : Nat} {h : Heap} : faE Tryz.prog 38 (.pointer (some ⟨b, o, none⟩)) 1 h = some (.pointer (some ⟨b, o + 1, none⟩)) := fa_of (off := 1) (by kernel_rfl)
theorem fa_38_3 {b o : Nat} {h : Heap} : faE Tryz.prog 38 (.pointer (some ⟨b, o, none⟩)) 3 h = some (.pointer (some ⟨b, o + 3, none⟩)) := fa_of (off := 3) (by kernel_rfl)
theorem fa_38_4 {b o : Nat} {h : Heap} : faE Tryz.prog 38 (.pointer (some ⟨b, o, none⟩)) 4 h = some (.pointer (some ⟨b, o + 4, none⟩)) := fa_of (off := 4) (by kernel_rfl)
theorem fa_41_0 {b o : Nat} {h : Heap} : faE Tryz.prog 41 (.pointer (some ⟨b, o, none⟩)) 0 h = some (.pointer (some ⟨b, o, none⟩)) := fa_of (off := 0) (by kernel_rfl)
theorem fa_41_1 {b o : Nat} {h : Heap} : faE Tryz.prog 41 (.pointer (some ⟨b, o, none⟩)) 1 h = some (.pointer (some ⟨b, o + 1, none⟩)) := fa_of (off := 1) (by kernel_rfl)
theorem fa_41_2 {b o : Nat} {h : Heap} : faE Tryz.prog 41 (.pointer (some ⟨b, o, none⟩)) 2 h = some (.pointer (some ⟨b, o + 2, none⟩)) := fa_of (off := 2) (by kernel_rfl)
theorem fa_41_3 {b o : Nat} {h : Heap} : faE Tryz.prog 41 (.pointer (some ⟨b, o, none⟩)) 3 h = some (.pointer (some ⟨b, o + 3, none⟩)) := fa_of (off := 3) (by kernel_rfl)
theorem fa_41_4 {b o : Nat} {h : Heap} : faE Tryz.prog 41 (.pointer (some ⟨b, o, none⟩)) 4 h = some (.pointer (some ⟨b, o + 4, none⟩)) := fa_of (off := 4) (by kernel_rfl)
theorem fa_43_0 {b o : Nat} {h : Heap} : faE Tryz.prog 43 (.pointer (some ⟨b, o, none⟩)) 0 h = some (.pointer (some ⟨b, o, none⟩)) := fa_of (off := 0) (by kernel_rfl)
theorem fa_43_1 {b o : Nat} {h : Heap} : faE Tryz.prog 43 (.pointer (some ⟨b, o, none⟩)) 1 h = some (.pointer (some ⟨b, o + 1, none⟩)) := fa_of (off := 1) (by kernel_rfl)
theorem fa_43_2 {b o : Nat} {h : Heap} : faE Tryz.prog 43 (.pointer (some ⟨b, o, none⟩)) 2 h = some (.pointer (some ⟨b, o + 2, none⟩)) := fa_of (off := 2) (by kernel_rfl)
theorem fa_43_3 {b o : Nat} {h : Heap} : faE Tryz.prog 43 (.pointer (some ⟨b, o, none⟩)) 3 h = some (.pointer (some ⟨b, o + 3, none⟩)) := fa_of (off := 3) (by kernel_rfl)
theorem fa_43_4 {b o : Nat} {h : Heap} : faE Tryz.prog 43 (.pointer (some ⟨b, o, none⟩)) 4 h = some (.pointer (some ⟨b, o + 4, none⟩)) := fa_of (off := 4) (by kernel_rfl)
theorem fa_46_0 {b o : Nat} {h : Heap} : faE Tryz.prog 46 (.pointer (some ⟨b, o, none⟩)) 0 h = some (.pointer (some ⟨b, o, none⟩)) := fa_of (off := 0) (by kernel_rfl)
theorem fa_51_0 {b o : Nat} {h : Heap} : faE Tryz.prog 51 (.pointer (some ⟨b, o, none⟩)) 0 h = some (.pointer (some ⟨b, o, none⟩)) := fa_of (off := 0) (by kernel_rfl)
theorem fa_51_1 {b o : Nat} {h : Heap} : faE Tryz.prog 51 (.pointer (some ⟨b, o, none⟩)) 1 h = some (.pointer (some ⟨b, o + 1, none⟩)) := fa_of (off := 1) (by kernel_rfl)
theorem fa_51_2 {b o : Nat} {h : Heap} : faE Tryz.prog 51 (.pointer (some ⟨b, o, none⟩)) 2 h = some (.pointer (some ⟨b, o + 2, none⟩)) := fa_of (off := 2) (by kernel_rfl)
theorem fa_51_3 {b o : Nat} {h : Heap} : faE Tryz.prog 51 (.pointer (some ⟨b, o, none⟩)) 3 h = some (.pointer (some ⟨b, o + 3, none⟩)) := fa_of (off := 3) (by kernel_rfl)
theorem fa_57_0 {b o : Nat} {h : Heap} : faE Tryz.prog 57 (.pointer (some ⟨b, o, none⟩)) 0 h = some (.pointer (some ⟨b, o, none⟩)) := fa_of (off := 0) (by kernel_rfl)
theorem fa_86_0 {b o : Nat} {h : Heap} : faE Tryz.prog 86 (.pointer (some ⟨b, o, none⟩)) 0 h = some (.pointer (some ⟨b, o, none⟩)) := fa_of (off := 0) (by kernel_rfl)
theorem fa_86_1 {b o : Nat} {h : Heap} : faE Tryz.prog 86 (.pointer (some ⟨b, o, none⟩)) 1 h = some (.pointer (some ⟨b, o + 1, none⟩)) := fa_of (off := 1) (by kernel_rfl)
theorem fa_86_2 {b o : Nat} {h : Heap} : faE Tryz.prog 86 (.pointer (some ⟨b, o, none⟩)) 2 h = some (.pointer (some ⟨b, o + 2, none⟩)) := fa_of (off := 2) (by kernel_rfl)
theorem fa_86_3 {b o : Nat} {h : Heap} : faE Tryz.prog 86 (.pointer (some ⟨b, o, none⟩)) 3 h = some (.pointer (some ⟨b, o + 3, none⟩)) := fa_of (off := 3) (by kernel_rfl)
theorem fa_98_0 {b o : Nat} {h : Heap} : faE Tryz.prog 98 (.pointer (some ⟨b, o, none⟩)) 0 h = some (.pointer (some ⟨b, o, none⟩)) := fa_of (off := 0) (by kernel_rfl)
theorem fa_98_1 {b o : Nat} {h : Heap} : faE Tryz.prog 98 (.pointer (some ⟨b, o, none⟩)) 1 h = some (.pointer (some ⟨b, o + 1, none⟩)) := fa_of (off := 1) (by kernel_rfl)
theorem fa_98_2 {b o : Nat} {h : Heap} : faE Tryz.prog 98 (.pointer (some ⟨b, o, none⟩)) 2 h = some (.pointer (some ⟨b, o + 2, none⟩)) := fa_of (off := 2) (by kernel_rfl)
theorem fa_98_3 {b o : Nat} {h : Heap} : faE Tryz.prog 98 (.pointer (some ⟨b, o, none⟩)) 3 h = some (.pointer (some ⟨b, o + 3, none⟩)) := fa_of (off := 3) (by kernel_rfl)
theorem fa_98_4 {b o : Nat} {h : Heap} : faE Tryz.prog 98 (.pointer (some ⟨b, o, none⟩)) 4 h = some (.pointer (some ⟨b, o + 4, none⟩)) := fa_of (off := 4) (by kernel_rfl)
theorem fa_98_5 {b o : Nat} {h : Heap} : faE Tryz.prog 98 (.pointer (some ⟨b, o, none⟩)) 5 h = some (.pointer (some ⟨b, o + 5, none⟩)) := fa_of (off := 5) (by kernel_rfl)
theorem fa_98_6 {b o : Nat} {h : Heap} : faE Tryz.prog 98 (.pointer (some ⟨b, o, none⟩)) 6 h = some (.pointer (some ⟨b, o + 6, none⟩)) := fa_of (off := 6) (by kernel_rfl)
theorem fa_98_7 {b o : Nat} {h : Heap} : faE Tryz.prog 98 (.pointer (some ⟨b, o, none⟩)) 7 h = some (.pointer (some ⟨b, o + 7, none⟩)) := fa_of (off := 7) (by kernel_rfl)
theorem ia_103 {b o n c : Nat} {k : IntKind} {i : Int} {h : Heap} (h0 : 0 ≤ i) (h1 : i < n) : iaE Tryz.prog 103 (.slice (some ⟨b, o, none⟩) n c) (.int k i) h = some (.pointer (some ⟨b, o + i.toNat * 1, none⟩)) := ia_of (by kernel_rfl) h0 h1
theorem ia_136 {b o n c : Nat} {k : IntKind} {i : Int} {h : Heap} (h0 : 0 ≤ i) (h1 : i < n) : iaE Tryz.prog 136 (.slice (some ⟨b, o, none⟩) n c) (.int k i) h = some (.pointer (some ⟨b, o + i.toNat * 1, none⟩)) := ia_of (by kernel_rfl) h0 h1
theorem ia_23 {b o n c : Nat} {k : IntKind} {i : Int} {h : Heap} (h0 : 0 ≤ i) (h1 : i < n) : iaE Tryz.prog 23 (.slice (some ⟨b, o, none⟩) n c) (.int k i) h = some (.pointer (some ⟨b, o + i.toNat * 5, none⟩)) := ia_of (by kernel_rfl) h0 h1
theorem ia_24 {b o n c : Nat} {k : IntKind} {i : Int} {h : Heap} (h0 : 0 ≤ i) (h1 : i < n) : iaE Tryz.prog 24 (.slice (some ⟨b, o, none⟩) n c) (.int k i) h = some (.pointer (some ⟨b, o + i.toNat * 1, none⟩)) := ia_of (by kernel_rfl) h0 h1
theorem ia_25 {b o n c : Nat} {k : IntKind} {i : Int} {h : Heap} (h0 : 0 ≤ i) (h1 : i < n) : iaE Tryz.prog 25 (.slice (some ⟨b, o, none⟩) n c) (.int k i) h = some (.pointer (some ⟨b, o + i.toNat * 4, none⟩)) := ia_of (by kernel_rfl) h0 h1
theorem ia_26 {b o n c : Nat} {k : IntKind} {i : Int} {h : Heap} (h0 : 0 ≤ i) (h1 : i < n) : iaE Tryz.prog 26 (.slice (some ⟨b, o, none⟩) n c) (.int k i) h = some (.pointer (some ⟨b, o + i.toNat * 9, none⟩)) := ia_of (by kernel_rfl) h0 h1
theorem ia_39 {b o n c : Nat} {k : IntKind} {i : Int} {h : Heap} (h0 : 0 ≤ i) (h1 : i < n) : iaE Tryz.prog 39 (.slice (some ⟨b, o, none⟩) n c) (.int k i) h = some (.pointer (some ⟨b, o + i.toNat * 4, none⟩)) := ia_of (by kernel_rfl) h0 h1
theorem ia_65 {b o n c : Nat} {k : IntKind} {i : Int} {h : Heap} (h0 : 0 ≤ i) (h1 : i < n) : iaE Tryz.prog 65 (.slice (some ⟨b, o, none⟩) n c) (.int k i) h = some (.pointer (some ⟨b, o + i.toNat * 1, none⟩)) := ia_of (by kernel_rfl) h0 h1
theorem ia_80 {b o n c : Nat} {k : IntKind} {i : Int} {h : Heap} (h0 : 0 ≤ i) (h1 : i < n) : iaE Tryz.prog 80 (.slice (some ⟨b, o, none⟩) n c) (.int k i) h = some (.pointer (some ⟨b, o + i.toNat * 1, none⟩)) := ia_of (by kernel_rfl) h0 h1
theorem ia_91 {b o n c : Nat} {k : IntKind} {i : Int} {h : Heap} (h0 : 0 ≤ i) (h1 : i < n) : iaE Tryz.prog 91 (.slice (some ⟨b, o, none⟩) n c) (.int k i) h = some (.pointer (some ⟨b, o + i.toNat * 8, none⟩)) := ia_of (by kernel_rfl) h0 h1
theorem ia_96 {b o n c : Nat} {k : IntKind} {i : Int} {h : Heap} (h0 : 0 ≤ i) (h1 : i < n) : iaE Tryz.prog 96 (.slice (some ⟨b, o, none⟩) n c) (.int k i) h = some (.pointer (some ⟨b, o + i.toNat * 1, none⟩)) := ia_of (by kernel_rfl) h0 h1
theorem ix_9 {l : List UInt8} {k : IntKind} {i : Int} {h : Heap} (h0 : 0 ≤ i) (h1 : i < l.length) : ixE Tryz.prog 9 (str l) (.int k i) h = some (.int .u8 ((l.getD i.toNat 0).toNat : Int)) := ix_str Tryz.underlying9 h0 h1
theorem ldc_107 {a : Addr} {h : Heap} : ld Tryz.prog 107 a h = cellAt h a := ld_cell (by kernel_rfl)
theorem ldc_22 {a : Addr} {h : Heap} : ld Tryz.prog 22 a h = cellAt h a := ld_cell (by kernel_rfl)
theorem ldc_23 {a : Addr} {h : Heap} : ld Tryz.prog 23 a h = cellAt h a := ld_cell (by kernel_rfl)
theorem ldc_24 {a : Addr} {h : Heap} : ld Tryz.prog 24 a h = cellAt h a := ld_cell (by kernel_rfl)
theorem ldc_25 {a : Addr} {h : Heap} : ld Tryz.prog 25 a h = cellAt h a := ld_cell (by kernel_rfl)
theorem ldc_26 {a : Addr} {h : Heap} : ld Tryz.prog 26 a h = cellAt h a := ld_cell (by kernel_rfl)
theorem ldc_3 {a : Addr} {h : Heap} : ld Tryz.prog 3 a h = cellAt h a := ld_cell (by kernel_rfl)
theorem ldc_31 {a : Addr} {h : Heap} : ld Tryz.prog 31 a h = cellAt h a := ld_cell (by kernel_rfl)
theorem ldc_39 {a : Addr} {h : Heap} : ld Tryz.prog 39 a h = cellAt h a := ld_cell (by kernel_rfl)
theorem ldc_4 {a : Addr} {h : Heap} : ld Tryz.prog 4 a h = cellAt h a := ld_cell (by kernel_rfl)
theorem ldc_44 {a : Addr} {h : Heap} : ld Tryz.prog 44 a h = cellAt h a := ld_cell (by kernel_rfl)
theorem ldc_5 {a : Addr} {h : Heap} : ld Tryz.prog 5 a h = cellAt h a := ld_cell (by kernel_rfl)
theorem ldc_9 {a : Addr} {h : Heap} : ld Tryz.prog 9 a h = cellAt h a := ld_cell (by kernel_rfl)
theorem ldc_96 {a : Addr} {h : Heap} : ld Tryz.prog 96 a h = cellAt h a := ld_cell (by kernel_rfl)
theorem len_136 {ty : TypeId} {a : Option Addr} {n c : Nat} {h : Heap} : lenE Tryz.prog 136 ty (.slice a n c) h = some (.int .i64 n) := len_slice Tryz.underlying136
theorem len_23 {ty : TypeId} {a : Option Addr} {n c : Nat} {h : Heap} : lenE Tryz.prog 23 ty (.slice a n c) h = some (.int .i64 n) := len_slice Tryz.underlying23
theorem len_24 {ty : TypeId} {a : Option Addr} {n c : Nat} {h : Heap} : lenE Tryz.prog 24 ty (.slice a n c) h = some (.int .i64 n) := len_slice Tryz.underlying24
theorem len_25 {ty : TypeId} {a : Option Addr} {n c : Nat} {h : Heap} : lenE Tryz.prog 25 ty (.slice a n c) h = some (.int .i64 n) := len_slice Tryz.underlying25
theorem len_26 {ty : TypeId} {a : Option Addr} {n c : Nat} {h : Heap} : lenE Tryz.prog 26 ty (.slice a n c) h = some (.int .i64 n) := len_slice Tryz.underlying26
theorem len_39 {ty : TypeId} {a : Option Addr} {n c : Nat} {h : Heap} : lenE Tryz.prog 39 ty (.slice a n c) h = some (.int .i64 n) := len_slice Tryz.underlying39
theorem len_65 {ty : TypeId} {a : Option Addr} {n c : Nat} {h : Heap} : lenE Tryz.prog 65 ty (.slice a n c) h = some (.int .i64 n) := len_slice Tryz.underlying65
theorem len_80 {ty : TypeId} {a : Option Addr} {n c : Nat} {h : Heap} : lenE Tryz.prog 80 ty (.slice a n c) h = some (.int .i64 n) := len_slice Tryz.underlying80
theorem len_9 {ty : TypeId} {l : List UInt8} {h : Heap} : lenE Tryz.prog 9 ty (str l) h = some (.int .i64 l.length) := len_str Tryz.underlying9
theorem len_91 {ty : TypeId} {a : Option Addr} {n c : Nat} {h : Heap} : lenE Tryz.prog 91 ty (.slice a n c) h = some (.int .i64 n) := len_slice Tryz.underlying91
theorem len_96 {ty : TypeId} {a : Option Addr} {n c : Nat} {h : Heap} : lenE Tryz.prog 96 ty (.slice a n c) h = some (.int .i64 n) := len_slice Tryz.underlying96
theorem slT_103 : slT Tryz.prog 103 4 1 1 = true := by kernel_rfl
theorem slT_136 : slT Tryz.prog 136 5 1 1 = true := by kernel_rfl
theorem slT_23 : slT Tryz.prog 23 38 5 40 = true := by kernel_rfl
theorem slT_24 : slT Tryz.prog 24 22 1 2 = true := by kernel_rfl
theorem slT_25 : slT Tryz.prog 25 51 4 8 = true := by kernel_rfl
theorem slT_26 : slT Tryz.prog 26 43 9 80 = true := by kernel_rfl
theorem slT_39 : slT Tryz.prog 39 86 4 32 = true := by kernel_rfl
theorem slT_65 : slT Tryz.prog 65 9 1 16 = true := by kernel_rfl
theorem slT_80 : slT Tryz.prog 80 31 1 8 = true := by kernel_rfl
theorem slT_91 : slT Tryz.prog 91 98 8 88 = true := by kernel_rfl
theorem slT_96 : slT Tryz.prog 96 3 1 8 = true := by kernel_rfl
theorem slb_9 {l : List UInt8} {k k' : IntKind} {a b : Int} {h : Heap} (h0 : 0 ≤ a) (h1 : a ≤ b) (h2 : b ≤ l.length) : slE Tryz.prog 9 (str l) (some (.int k a)) (some (.int k' b)) none h = some (str ((l.take b.toNat).drop a.toNat)) := sl_str_lh Tryz.underlying9 h0 h1 h2
theorem slh_9 {l : List UInt8} {k : IntKind} {b : Int} {h : Heap} (h0 : 0 ≤ b) (h2 : b ≤ l.length) : slE Tryz.prog 9 (str l) none (some (.int k b)) none h = some (str (l.take b.toNat)) := sl_str_h Tryz.underlying9 h0 h2
theorem sll_9 {l : List UInt8} {k : IntKind} {a : Int} {h : Heap} (h0 : 0 ≤ a) (h2 : a ≤ l.length) : slE Tryz.prog 9 (str l) (some (.int k a)) none none h = some (str (l.drop a.toNat)) := sl_str_l Tryz.underlying9 h0 h2
theorem slzb_24 {a : Option Addr} {n c : Nat} {k k' : IntKind} {lo hi : Int} {h : Heap} (h0 : 0 ≤ lo) (h1 : lo ≤ hi) (h2 : hi ≤ c) : slE Tryz.prog 24 (.slice a n c) (some (.int k lo)) (some (.int k' hi)) none h = some (.slice (slA a c lo.toNat 1) (hi.toNat - lo.toNat) (c - lo.toNat)) := sl_sl_lh slT_24 h0 h1 h2
theorem slzb_25 {a : Option Addr} {n c : Nat} {k k' : IntKind} {lo hi : Int} {h : Heap} (h0 : 0 ≤ lo) (h1 : lo ≤ hi) (h2 : hi ≤ c) : slE Tryz.prog 25 (.slice a n c) (some (.int k lo)) (some (.int k' hi)) none h = some (.slice (slA a c lo.toNat 4) (hi.toNat - lo.toNat) (c - lo.toNat)) := sl_sl_lh slT_25 h0 h1 h2
theorem slzb_26 {a : Option Addr} {n c : Nat} {k k' : IntKind} {lo hi : Int} {h : Heap} (h0 : 0 ≤ lo) (h1 : lo ≤ hi) (h2 : hi ≤ c) : slE Tryz.prog 26 (.slice a n c) (some (.int k lo)) (some (.int k' hi)) none h = some (.slice (slA a c lo.toNat 9) (hi.toNat - lo.toNat) (c - lo.toNat)) := sl_sl_lh slT_26 h0 h1 h2
theorem slzb_65 {a : Option Addr} {n c : Nat} {k k' : IntKind} {lo hi : Int} {h : Heap} (h0 : 0 ≤ lo) (h1 : lo ≤ hi) (h2 : hi ≤ c) : slE Tryz.prog 65 (.slice a n c) (some (.int k lo)) (some (.int k' hi)) none h = some (.slice (slA a c lo.toNat 1) (hi.toNat - lo.toNat) (c - lo.toNat)) := sl_sl_lh slT_65 h0 h1 h2
theorem slzh_24 {a : Option Addr} {n c : Nat} {k : IntKind} {hi : Int} {h : Heap} (h0 : 0 ≤ hi) (h1 : hi ≤ c) : slE Tryz.prog 24 (.slice a n c) none (some (.int k hi)) none h = some (.slice (slA a c 0 1) (hi.toNat - 0) (c - 0)) := sl_sl_h slT_24 h0 h1
theorem slzh_25 {a : Option Addr} {n c : Nat} {k : IntKind} {hi : Int} {h : Heap} (h0 : 0 ≤ hi) (h1 : hi ≤ c) : slE Tryz.prog 25 (.slice a n c) none (some (.int k hi)) none h = some (.slice (slA a c 0 4) (hi.toNat - 0) (c - 0)) := sl_sl_h slT_25 h0 h1
theorem slzh_26 {a : Option Addr} {n c : Nat} {k : IntKind} {hi : Int} {h : Heap} (h0 : 0 ≤ hi) (h1 : hi ≤ c) : slE Tryz.prog 26 (.slice a n c) none (some (.int k hi)) none h = some (.slice (slA a c 0 9) (hi.toNat - 0) (c - 0)) := sl_sl_h slT_26 h0 h1
theorem slzh_65 {a : Option Addr} {n c : Nat} {k : IntKind} {hi : Int} {h : Heap} (h0 : 0 ≤ hi) (h1 : hi ≤ c) : slE Tryz.prog 65 (.slice a n c) none (some (.int k hi)) none h = some (.slice (slA a c 0 1) (hi.toNat - 0) (c - 0)) := sl_sl_h slT_65 h0 h1
theorem slzl_24 {a : Option Addr} {n c : Nat} {k : IntKind} {lo : Int} {h : Heap} (h0 : 0 ≤ lo) (h1 : lo ≤ n) : slE Tryz.prog 24 (.slice a n c) (some (.int k lo)) none none h = some (.slice (slA a c lo.toNat 1) (n - lo.toNat) (c - lo.toNat)) := sl_sl_l slT_24 h0 h1
theorem slzl_25 {a : Option Addr} {n c : Nat} {k : IntKind} {lo : Int} {h : Heap} (h0 : 0 ≤ lo) (h1 : lo ≤ n) : slE Tryz.prog 25 (.slice a n c) (some (.int k lo)) none none h = some (.slice (slA a c lo.toNat 4) (n - lo.toNat) (c - lo.toNat)) := sl_sl_l slT_25 h0 h1
theorem slzl_26 {a : Option Addr} {n c : Nat} {k : IntKind} {lo : Int} {h : Heap} (h0 : 0 ≤ lo) (h1 : lo ≤ n) : slE Tryz.prog 26 (.slice a n c) (some (.int k lo)) none none h = some (.slice (slA a c lo.toNat 9) (n - lo.toNat) (c - lo.toNat)) := sl_sl_l slT_26 h0 h1
theorem slzl_65 {a : Option Addr} {n c : Nat} {k : IntKind} {lo : Int} {h : Heap} (h0 : 0 ≤ lo) (h1 : lo ≤ n) : slE Tryz.prog 65 (.slice a n c) (some (.int k lo)) none none h = some (.slice (slA a c lo.toNat 1) (n - lo.toNat) (c - lo.toNat)) := sl_sl_l slT_65 h0 h1
theorem zr_110 : zrT Tryz.prog 110 #[.pointer none] := by unfold zrT; kernel_rfl
theorem zr_22 : zrT Tryz.prog 22 #[.int .u16 0] := by unfold zrT; kernel_rfl
theorem zr_23 : zrT Tryz.prog 23 #[.slice none 0 0] := by unfold zrT; kernel_rfl
theorem zr_24 : zrT Tryz.prog 24 #[.slice none 0 0] := by unfold zrT; kernel_rfl
theorem zr_25 : zrT Tryz.prog 25 #[.slice none 0 0] := by unfold zrT; kernel_rfl
theorem zr_26 : zrT Tryz.prog 26 #[.slice none 0 0] := by unfold zrT; kernel_rfl
theorem zr_28 : zrT Tryz.prog 28 #[.int .u16 0, .int .u16 0, .int .u16 0, .int .u16 0, .int .u16 0, .slice none 0 0, .slice none 0 0, .slice none 0 0, .slice none 0 0] := by unfold zrT; kernel_rfl
theorem zr_3 : zrT Tryz.prog 3 #[.int .i64 0] := by unfold zrT; kernel_rfl
theorem zr_31 : zrT Tryz.prog 31 #[.int .i64 0] := by unfold zrT; kernel_rfl
theorem zr_38 : zrT Tryz.prog 38 #[.int .u8 0, str [], .int .u64 0, .int .u16 0, .int .u16 0] := by unfold zrT; kernel_rfl
theorem zr_39 : zrT Tryz.prog 39 #[.slice none 0 0] := by unfold zrT; kernel_rfl
theorem zr_4 : zrT Tryz.prog 4 #[.bool false] := by unfold zrT; kernel_rfl
theorem zr_43 : zrT Tryz.prog 43 #[.int .u16 0, .int .u16 0, .int .u16 0, .bool false, .int .i64 0, .int .i64 0, str [], .slice none 0 0, str []] := by unfold zrT; kernel_rfl
theorem zr_46 : zrT Tryz.prog 46 #[.pointer none] := by unfold zrT; kernel_rfl
theorem zr_5 : zrT Tryz.prog 5 #[.int .u8 0] := by unfold zrT; kernel_rfl
theorem zr_51 : zrT Tryz.prog 51 #[.int .u16 0, .int .u16 0, .int .u16 0, .int .u16 0] := by unfold zrT; kernel_rfl
theorem zr_70 : zrT Tryz.prog 70 #[] := by unfold zrT; kernel_rfl
theorem zr_86 : zrT Tryz.prog 86 #[.int .i64 0, .int .i64 0, .int .i64 0, .int .u16 0] := by unfold zrT; kernel_rfl
theorem zr_9 : zrT Tryz.prog 9 #[str []] := by unfold zrT; kernel_rfl
theorem zr_96 : zrT Tryz.prog 96 #[.slice none 0 0] := by unfold zrT; kernel_rfl
theorem zr_98 : zrT Tryz.prog 98 #[.int .i64 0, .int .u8 0, .bool false, .int .i64 0, .int .i64 0, .int .i64 0, .slice none 0 0, .slice none 0 0] := by unfold zrT; kernel_rfl
def ts := And.intro @able_10 (And.intro @able_100 (And.intro @able_101 (And.intro @able_102 (And.intro @able_103 (And.intro @able_105 (And.intro @able_106 (And.intro @able_108 (And.intro @able_11 (And.intro @able_111 (And.intro @able_112 (And.intro @able_113 (And.intro @able_114 (And.intro @able_115 (And.intro @able_116 (And.intro @able_12 (And.intro @able_120 (And.intro @able_13 (And.intro @able_14 (And.intro @able_15 (And.intro @able_16 (And.intro @able_17 (And.intro @able_18 (And.intro @able_19 (And.intro @able_20 (And.intro @able_21 (And.intro @able_22 (And.intro @able_23 (And.intro @able_24 (And.intro @able_25 (And.intro @able_26 (And.intro @able_27 (And.intro @able_28 (And.intro @able_29 (And.intro @able_3 (And.intro @able_30 (And.intro @able_31 (And.intro @able_32 (And.intro @able_33 (And.intro @able_34 (And.intro @able_35 (And.intro @able_36 (And.intro @able_37 (And.intro @able_38 (And.intro @able_39 (And.intro @able_4 (And.intro @able_40 (And.intro @able_41 (And.intro @able_42 (And.intro @able_43 (And.intro @able_44 (And.intro @able_45 (And.intro @able_46 (And.intro @able_47 (And.intro @able_48 (And.intro @able_49 (And.intro @able_5 (And.intro @able_50 (And.intro @able_51 (And.intro @able_52 (And.intro @able_53 (And.intro @able_54 (And.intro @able_55 (And.intro @able_56 (And.intro @able_57 (And.intro @able_58 (And.intro @able_59 (And.intro @able_6 (And.intro @able_60 (And.intro @able_61 (And.intro @able_62 (And.intro @able_63 (And.intro @able_64 (And.intro @able_65 (And.intro @able_66 (And.intro @able_67 (And.intro @able_68 (And.intro @able_69 (And.intro @able_7 (And.intro @able_70 (And.intro @able_71 (And.intro @able_72 (And.intro @able_73 (And.intro @able_74 (And.intro @able_75 (And.intro @able_76 (And.intro @able_77 (And.intro @able_78 (And.intro @able_79 (And.intro @able_8 (And.intro @able_80 (And.intro @able_81 (And.intro @able_82 (And.intro @able_83 (And.intro @able_84 (And.intro @able_85 (And.intro @able_86 (And.intro @able_87 (And.intro @able_88 (And.intro @able_89 (And.intro @able_9 (And.intro @able_90 (And.intro @able_91 (And.intro @able_92 (And.intro @able_93 (And.intro @able_94 (And.intro @able_95 (And.intro @able_96 (And.intro @able_97 (And.intro @able_98 (And.intro @able_99 (And.intro @bb_eql_4 (And.intro @bb_neq_4 (And.intro @bl_110_0 (And.intro @bl_120_0 (And.intro @bl_130_0 (And.intro @bl_46_0 (And.intro @bl_57_0 (And.intro @bl_70 (And.intro @bl_98_0 (And.intro @bl_98_0_1 (And.intro @cv_21_5 (And.intro @cv_22_3 (And.intro @cv_36_3 (And.intro @cv_3_22 (And.intro @cv_3_5 (And.intro @cv_5_21 (And.intro @cv_5_3 (And.intro @cv_5_36 (And.intro @cvl1_136_9 (And.intro @cvl2_136_9 (And.intro @cvl3_136_9 (And.intro @cvn_136_9 (And.intro @fa_110_0 (And.intro @fa_120_0 (And.intro @fa_120_1 (And.intro @fa_120_2 (And.intro @fa_120_3 (And.intro @fa_130_0 (And.intro @fa_130_1 (And.intro @fa_130_2 (And.intro @fa_130_3 (And.intro @fa_28_0 (And.intro @fa_28_1 (And.intro @fa_28_2 (And.intro @fa_28_3 (And.intro @fa_28_4 (And.intro @fa_28_5 (And.intro @fa_28_6 (And.intro @fa_28_7 (And.intro @fa_28_8 (And.intro @fa_38_0 (And.intro @fa_38_1 (And.intro @fa_38_3 (And.intro @fa_38_4 (And.intro @fa_41_0 (And.intro @fa_41_1 (And.intro @fa_41_2 (And.intro @fa_41_3 (And.intro @fa_41_4 (And.intro @fa_43_0 (And.intro @fa_43_1 (And.intro @fa_43_2 (And.intro @fa_43_3 (And.intro @fa_43_4 (And.intro @fa_46_0 (And.intro @fa_51_0 (And.intro @fa_51_1 (And.intro @fa_51_2 (And.intro @fa_51_3 (And.intro @fa_57_0 (And.intro @fa_86_0 (And.intro @fa_86_1 (And.intro @fa_86_2 (And.intro @fa_86_3 (And.intro @fa_98_0 (And.intro @fa_98_1 (And.intro @fa_98_2 (And.intro @fa_98_3 (And.intro @fa_98_4 (And.intro @fa_98_5 (And.intro @fa_98_6 (And.intro @fa_98_7 (And.intro @ia_103 (And.intro @ia_136 (And.intro @ia_23 (And.intro @ia_24 (And.intro @ia_25 (And.intro @ia_26 (And.intro @ia_39 (And.intro @ia_65 (And.intro @ia_80 (And.intro @ia_91 (And.intro @ia_96 (And.intro @ix_9 (And.intro @ldc_107 (And.intro @ldc_22 (And.intro @ldc_23 (And.intro @ldc_24 (And.intro @ldc_25 (And.intro @ldc_26 (And.intro @ldc_3 (And.intro @ldc_31 (And.intro @ldc_39 (And.intro @ldc_4 (And.intro @ldc_44 (And.intro @ldc_5 (And.intro @ldc_9 (And.intro @ldc_96 (And.intro @len_136 (And.intro @len_23 (And.intro @len_24 (And.intro @len_25 (And.intro @len_26 (And.intro @len_39 (And.intro @len_65 (And.intro @len_80 (And.intro @len_9 (And.intro @len_91 (And.intro @len_96 (And.intro @slb_9 (And.intro @slh_9 (And.intro @sll_9 (And.intro @slzb_24 (And.intro @slzb_25 (And.intro @slzb_26 (And.intro @slzb_65 (And.intro @slzh_24 (And.intro @slzh_25 (And.intro @slzh_26 (And.intro @slzh_65 (And.intro @slzl_24 (And.intro @slzl_25 (And.intro @slzl_26 (@slzl_65))))))))))))))))))))))))))))))))))))))))))))))))))))))))))))))))))))))))))))))))))))))))))))))))))))))))))))))))))))))))))))))))))))))))))))))))))))))))))))))))))))))))))))))))))))))))))))))))))))))))))))))))))))))))))))))))))))))))))
def tv := And.intro vs (And.intro Go.Vc.vk ts)
end Go.Proofs.YtflocjbhcjhenaaGreatDoor.T

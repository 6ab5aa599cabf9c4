/- Facts on the types of this seat's program, printed by a program. No condition. -/
import Derived.Test.YtjpcpkhegjndeaaProg
import Derived.Test.YtjpcpkhegjndeaaVcM
set_option maxRecDepth 100000
set_option linter.defProp false
namespace Go.Proofs.Ytjpcpkhegjndeaa.T
open Go.Vc
theorem able_10 : callable Try.prog 10 = true := by kernel_rfl
theorem able_11 : callable Try.prog 11 = true := by kernel_rfl
theorem able_12 : callable Try.prog 12 = true := by kernel_rfl
theorem able_13 : callable Try.prog 13 = true := by kernel_rfl
theorem able_14 : callable Try.prog 14 = true := by kernel_rfl
theorem able_15 : callable Try.prog 15 = true := by kernel_rfl
theorem able_16 : callable Try.prog 16 = true := by kernel_rfl
theorem able_17 : callable Try.prog 17 = true := by kernel_rfl
theorem able_18 : callable Try.prog 18 = true := by kernel_rfl
theorem able_19 : callable Try.prog 19 = true := by kernel_rfl
theorem able_20 : callable Try.prog 20 = true := by kernel_rfl
theorem able_21 : callable Try.prog 21 = true := by kernel_rfl
theorem able_22 : callable Try.prog 22 = true := by kernel_rfl
theorem able_23 : callable Try.prog 23 = true := by kernel_rfl
theorem able_24 : callable Try.prog 24 = true := by kernel_rfl
theorem able_25 : callable Try.prog 25 = true := by kernel_rfl
theorem able_26 : callable Try.prog 26 = true := by kernel_rfl
theorem able_27 : callable Try.prog 27 = true := by kernel_rfl
theorem able_28 : callable Try.prog 28 = true := by kernel_rfl
theorem able_29 : callable Try.prog 29 = true := by kernel_rfl
theorem able_3 : callable Try.prog 3 = true := by kernel_rfl
theorem able_30 : callable Try.prog 30 = true := by kernel_rfl
theorem able_31 : callable Try.prog 31 = true := by kernel_rfl
theorem able_32 : callable Try.prog 32 = true := by kernel_rfl
theorem able_33 : callable Try.prog 33 = true := by kernel_rfl
theorem able_34 : callable Try.prog 34 = true := by kernel_rfl
theorem able_35 : callable Try.prog 35 = true := by kernel_rfl
theorem able_36 : callable Try.prog 36 = true := by kernel_rfl
theorem able_37 : callable Try.prog 37 = true := by kernel_rfl
theorem able_38 : callable Try.prog 38 = true := by kernel_rfl
theorem able_39 : callable Try.prog 39 = true := by kernel_rfl
theorem able_4 : callable Try.prog 4 = true := by kernel_rfl
theorem able_40 : callable Try.prog 40 = true := by kernel_rfl
theorem able_41 : callable Try.prog 41 = true := by kernel_rfl
theorem able_42 : callable Try.prog 42 = true := by kernel_rfl
theorem able_43 : callable Try.prog 43 = true := by kernel_rfl
theorem able_44 : callable Try.prog 44 = true := by kernel_rfl
theorem able_45 : callable Try.prog 45 = true := by kernel_rfl
theorem able_46 : callable Try.prog 46 = true := by kernel_rfl
theorem able_47 : callable Try.prog 47 = true := by kernel_rfl
theorem able_48 : callable Try.prog 48 = true := by kernel_rfl
theorem able_49 : callable Try.prog 49 = true := by kernel_rfl
theorem able_5 : callable Try.prog 5 = true := by kernel_rfl
theorem able_6 : callable Try.prog 6 = true := by kernel_rfl
theorem able_7 : callable Try.prog 7 = true := by kernel_rfl
theorem able_8 : callable Try.prog 8 = true := by kernel_rfl
theorem able_9 : callable Try.prog 9 = true := by kernel_rfl
theorem ag_35 : aggT Try.prog 35 8 = true := by kernel_rfl
theorem ag_52 : aggT Try.prog 52 1 = true := by kernel_rfl
theorem bb_neq_4 {x y : Operand} {a b : Bool} {h : Heap} : binE Try.prog .neq 4 x y (.bool a) (.bool b) h = some (.bool (decide (a ≠ b))) := bin_bool_neq Try.underlying4
theorem bl_35_0 {n0 : Int} {h : Heap} : bldE Try.prog 35 [0] [.int .i64 n0] h = some (.agg #[.int .i64 n0, .int .u8 0, .bool false, .int .i64 0, .int .i64 0, .int .i64 0, .slice none 0 0, .slice none 0 0]) := bldE_of (by kernel_rfl)
theorem bl_35_0_1 {n0 : Int} {n1 : Int} {h : Heap} : bldE Try.prog 35 [0, 1] [.int .i64 n0, .int .u8 n1] h = some (.agg #[.int .i64 n0, .int .u8 n1, .bool false, .int .i64 0, .int .i64 0, .int .i64 0, .slice none 0 0, .slice none 0 0]) := bldE_of (by kernel_rfl)
theorem bl_39_1 {b1 : Bool} {h : Heap} : bldE Try.prog 39 [1] [.bool b1] h = some (.agg #[.slice none 0 0, .bool b1]) := bldE_of (by kernel_rfl)
theorem bl_52_0 {p0 : Option Addr} {h : Heap} : bldE Try.prog 52 [0] [.pointer p0] h = some (.agg #[.pointer p0]) := bldE_of (by kernel_rfl)
theorem bl_61_0 {l0 : List UInt8} {h : Heap} : bldE Try.prog 61 [0] [str l0] h = some (.agg #[str l0, .int .i64 0, .int .i64 0, .int .i64 0]) := bldE_of (by kernel_rfl)
theorem bl_68_0 {l0 : List UInt8} {h : Heap} : bldE Try.prog 68 [0] [str l0] h = some (.agg #[str l0, .int .i64 0, .int .i64 0, .int .i64 0]) := bldE_of (by kernel_rfl)
theorem cv_3_5 {k : IntKind} {n : Int} {h : Heap} : cvE Try.prog 3 5 (.int k n) h = some (.int .u8 (IntKind.u8.wrap n)) := cv_int Try.underlying3 Try.underlying5
theorem cv_3_74 {k : IntKind} {n : Int} {h : Heap} : cvE Try.prog 3 74 (.int k n) h = some (.int .u64 (IntKind.u64.wrap n)) := cv_int Try.underlying3 Try.underlying74
theorem cv_5_3 {k : IntKind} {n : Int} {h : Heap} : cvE Try.prog 5 3 (.int k n) h = some (.int .i64 (IntKind.i64.wrap n)) := cv_int Try.underlying5 Try.underlying3
theorem cv_5_74 {k : IntKind} {n : Int} {h : Heap} : cvE Try.prog 5 74 (.int k n) h = some (.int .u64 (IntKind.u64.wrap n)) := cv_int Try.underlying5 Try.underlying74
theorem cv_74_3 {k : IntKind} {n : Int} {h : Heap} : cvE Try.prog 74 3 (.int k n) h = some (.int .i64 (IntKind.i64.wrap n)) := cv_int Try.underlying74 Try.underlying3
theorem cv_74_5 {k : IntKind} {n : Int} {h : Heap} : cvE Try.prog 74 5 (.int k n) h = some (.int .u8 (IntKind.u8.wrap n)) := cv_int Try.underlying74 Try.underlying5
theorem cvb_37_9 {b o n c : Nat} {l : List UInt8} {h : Heap} (H : Rd h b o (bytesV l)) (hl : l.length = n) : cvE Try.prog 37 9 (.slice (some ⟨b, o, none⟩) n c) h = some (str l) := cv_bytes Try.underlying37 Try.underlying5 Try.underlying9 H hl
theorem cvl1_37_9 {k : Nat} {a : Int} {h : Heap} {e : TypeId} {fz : Nat × Nat} : cvE Try.prog 37 9 (.slice (some ⟨h.size, 0, none⟩) 1 k) (h.push (.cells #[.int .u8 a] e fz)) = some (str [UInt8.ofNat a.toNat]) := cv_lit1 Try.underlying37 Try.underlying5 Try.underlying9
theorem cvl2_37_9 {k : Nat} {a b : Int} {h : Heap} {e : TypeId} {fz : Nat × Nat} : cvE Try.prog 37 9 (.slice (some ⟨h.size, 0, none⟩) 2 k) (h.push (.cells #[.int .u8 a, .int .u8 b] e fz)) = some (str [UInt8.ofNat a.toNat, UInt8.ofNat b.toNat]) := cv_lit2 Try.underlying37 Try.underlying5 Try.underlying9
theorem cvl3_37_9 {k : Nat} {a b c : Int} {h : Heap} {e : TypeId} {fz : Nat × Nat} : cvE Try.prog 37 9 (.slice (some ⟨h.size, 0, none⟩) 3 k) (h.push (.cells #[.int .u8 a, .int .u8 b, .int .u8 c] e fz)) = some (str [UInt8.ofNat a.toNat, UInt8.ofNat b.toNat, UInt8.ofNat c.toNat]) := cv_lit3 Try.underlying37 Try.underlying5 Try.underlying9
theorem cvn_37_9 {n c : Nat} {h : Heap} : cvE Try.prog 37 9 (.slice none n c) h = some (str []) := cv_bytes_nil Try.underlying37 Try.underlying5 Try.underlying9
theorem cvo_37_9 {base n : Nat} {e : TypeId} {v : Value} {l : List UInt8} {h : Heap} (H : Own h base e 1 v n (bytesV l)) : cvE Try.prog 37 9 v h = some (str l) := cv_own Try.underlying37 Try.underlying5 Try.underlying9 H
theorem fa_35_0 {b o : Nat} {h : Heap} : faE Try.prog 35 (.pointer (some ⟨b, o, none⟩)) 0 h = some (.pointer (some ⟨b, o, none⟩)) := fa_of (off := 0) (by kernel_rfl)
theorem fa_35_1 {b o : Nat} {h : Heap} : faE Try.prog 35 (.pointer (some ⟨b, o, none⟩)) 1 h = some (.pointer (some ⟨b, o + 1, none⟩)) := fa_of (off := 1) (by kernel_rfl)
theorem fa_35_2 {b o : Nat} {h : Heap} : faE Try.prog 35 (.pointer (some ⟨b, o, none⟩)) 2 h = some (.pointer (some ⟨b, o + 2, none⟩)) := fa_of (off := 2) (by kernel_rfl)
theorem fa_35_3 {b o : Nat} {h : Heap} : faE Try.prog 35 (.pointer (some ⟨b, o, none⟩)) 3 h = some (.pointer (some ⟨b, o + 3, none⟩)) := fa_of (off := 3) (by kernel_rfl)
theorem fa_35_4 {b o : Nat} {h : Heap} : faE Try.prog 35 (.pointer (some ⟨b, o, none⟩)) 4 h = some (.pointer (some ⟨b, o + 4, none⟩)) := fa_of (off := 4) (by kernel_rfl)
theorem fa_35_5 {b o : Nat} {h : Heap} : faE Try.prog 35 (.pointer (some ⟨b, o, none⟩)) 5 h = some (.pointer (some ⟨b, o + 5, none⟩)) := fa_of (off := 5) (by kernel_rfl)
theorem fa_35_6 {b o : Nat} {h : Heap} : faE Try.prog 35 (.pointer (some ⟨b, o, none⟩)) 6 h = some (.pointer (some ⟨b, o + 6, none⟩)) := fa_of (off := 6) (by kernel_rfl)
theorem fa_35_7 {b o : Nat} {h : Heap} : faE Try.prog 35 (.pointer (some ⟨b, o, none⟩)) 7 h = some (.pointer (some ⟨b, o + 7, none⟩)) := fa_of (off := 7) (by kernel_rfl)
theorem fa_39_0 {b o : Nat} {h : Heap} : faE Try.prog 39 (.pointer (some ⟨b, o, none⟩)) 0 h = some (.pointer (some ⟨b, o, none⟩)) := fa_of (off := 0) (by kernel_rfl)
theorem fa_39_1 {b o : Nat} {h : Heap} : faE Try.prog 39 (.pointer (some ⟨b, o, none⟩)) 1 h = some (.pointer (some ⟨b, o + 1, none⟩)) := fa_of (off := 1) (by kernel_rfl)
theorem fa_52_0 {b o : Nat} {h : Heap} : faE Try.prog 52 (.pointer (some ⟨b, o, none⟩)) 0 h = some (.pointer (some ⟨b, o, none⟩)) := fa_of (off := 0) (by kernel_rfl)
theorem fa_61_0 {b o : Nat} {h : Heap} : faE Try.prog 61 (.pointer (some ⟨b, o, none⟩)) 0 h = some (.pointer (some ⟨b, o, none⟩)) := fa_of (off := 0) (by kernel_rfl)
theorem fa_61_1 {b o : Nat} {h : Heap} : faE Try.prog 61 (.pointer (some ⟨b, o, none⟩)) 1 h = some (.pointer (some ⟨b, o + 1, none⟩)) := fa_of (off := 1) (by kernel_rfl)
theorem fa_61_2 {b o : Nat} {h : Heap} : faE Try.prog 61 (.pointer (some ⟨b, o, none⟩)) 2 h = some (.pointer (some ⟨b, o + 2, none⟩)) := fa_of (off := 2) (by kernel_rfl)
theorem fa_61_3 {b o : Nat} {h : Heap} : faE Try.prog 61 (.pointer (some ⟨b, o, none⟩)) 3 h = some (.pointer (some ⟨b, o + 3, none⟩)) := fa_of (off := 3) (by kernel_rfl)
theorem fa_68_0 {b o : Nat} {h : Heap} : faE Try.prog 68 (.pointer (some ⟨b, o, none⟩)) 0 h = some (.pointer (some ⟨b, o, none⟩)) := fa_of (off := 0) (by kernel_rfl)
theorem fa_68_1 {b o : Nat} {h : Heap} : faE Try.prog 68 (.pointer (some ⟨b, o, none⟩)) 1 h = some (.pointer (some ⟨b, o + 1, none⟩)) := fa_of (off := 1) (by kernel_rfl)
theorem fa_68_2 {b o : Nat} {h : Heap} : faE Try.prog 68 (.pointer (some ⟨b, o, none⟩)) 2 h = some (.pointer (some ⟨b, o + 2, none⟩)) := fa_of (off := 2) (by kernel_rfl)
theorem fa_68_3 {b o : Nat} {h : Heap} : faE Try.prog 68 (.pointer (some ⟨b, o, none⟩)) 3 h = some (.pointer (some ⟨b, o + 3, none⟩)) := fa_of (off := 3) (by kernel_rfl)
theorem ia_22 {b o n c : Nat} {k : IntKind} {i : Int} {h : Heap} (h0 : 0 ≤ i) (h1 : i < n) : iaE Try.prog 22 (.slice (some ⟨b, o, none⟩) n c) (.int k i) h = some (.pointer (some ⟨b, o + i.toNat * 8, none⟩)) := ia_of (by kernel_rfl) h0 h1
theorem ia_33 {b o n c : Nat} {k : IntKind} {i : Int} {h : Heap} (h0 : 0 ≤ i) (h1 : i < n) : iaE Try.prog 33 (.slice (some ⟨b, o, none⟩) n c) (.int k i) h = some (.pointer (some ⟨b, o + i.toNat * 1, none⟩)) := ia_of (by kernel_rfl) h0 h1
theorem ia_37 {b o n c : Nat} {k : IntKind} {i : Int} {h : Heap} (h0 : 0 ≤ i) (h1 : i < n) : iaE Try.prog 37 (.slice (some ⟨b, o, none⟩) n c) (.int k i) h = some (.pointer (some ⟨b, o + i.toNat * 1, none⟩)) := ia_of (by kernel_rfl) h0 h1
theorem ia_47 {b o n c : Nat} {k : IntKind} {i : Int} {h : Heap} (h0 : 0 ≤ i) (h1 : i < n) : iaE Try.prog 47 (.slice (some ⟨b, o, none⟩) n c) (.int k i) h = some (.pointer (some ⟨b, o + i.toNat * 1, none⟩)) := ia_of (by kernel_rfl) h0 h1
theorem ix_9 {l : List UInt8} {k : IntKind} {i : Int} {h : Heap} (h0 : 0 ≤ i) (h1 : i < l.length) : ixE Try.prog 9 (str l) (.int k i) h = some (.int .u8 ((l.getD i.toNat 0).toNat : Int)) := ix_str Try.underlying9 h0 h1
theorem ldc_25 {a : Addr} {h : Heap} : ld Try.prog 25 a h = cellAt h a := ld_cell (by kernel_rfl)
theorem ldc_3 {a : Addr} {h : Heap} : ld Try.prog 3 a h = cellAt h a := ld_cell (by kernel_rfl)
theorem ldc_33 {a : Addr} {h : Heap} : ld Try.prog 33 a h = cellAt h a := ld_cell (by kernel_rfl)
theorem ldc_37 {a : Addr} {h : Heap} : ld Try.prog 37 a h = cellAt h a := ld_cell (by kernel_rfl)
theorem ldc_4 {a : Addr} {h : Heap} : ld Try.prog 4 a h = cellAt h a := ld_cell (by kernel_rfl)
theorem ldc_49 {a : Addr} {h : Heap} : ld Try.prog 49 a h = cellAt h a := ld_cell (by kernel_rfl)
theorem ldc_5 {a : Addr} {h : Heap} : ld Try.prog 5 a h = cellAt h a := ld_cell (by kernel_rfl)
theorem ldc_9 {a : Addr} {h : Heap} : ld Try.prog 9 a h = cellAt h a := ld_cell (by kernel_rfl)
theorem len_22 {ty : TypeId} {a : Option Addr} {n c : Nat} {h : Heap} : lenE Try.prog 22 ty (.slice a n c) h = some (.int .i64 n) := len_slice Try.underlying22
theorem len_33 {ty : TypeId} {a : Option Addr} {n c : Nat} {h : Heap} : lenE Try.prog 33 ty (.slice a n c) h = some (.int .i64 n) := len_slice Try.underlying33
theorem len_37 {ty : TypeId} {a : Option Addr} {n c : Nat} {h : Heap} : lenE Try.prog 37 ty (.slice a n c) h = some (.int .i64 n) := len_slice Try.underlying37
theorem len_9 {ty : TypeId} {l : List UInt8} {h : Heap} : lenE Try.prog 9 ty (str l) h = some (.int .i64 l.length) := len_str Try.underlying9
theorem slT_22 : slT Try.prog 22 35 8 88 = true := by kernel_rfl
theorem slT_33 : slT Try.prog 33 3 1 8 = true := by kernel_rfl
theorem slT_37 : slT Try.prog 37 5 1 1 = true := by kernel_rfl
theorem slT_47 : slT Try.prog 47 4 1 1 = true := by kernel_rfl
theorem slb_9 {l : List UInt8} {k k' : IntKind} {a b : Int} {h : Heap} (h0 : 0 ≤ a) (h1 : a ≤ b) (h2 : b ≤ l.length) : slE Try.prog 9 (str l) (some (.int k a)) (some (.int k' b)) none h = some (str ((l.take b.toNat).drop a.toNat)) := sl_str_lh Try.underlying9 h0 h1 h2
theorem slh_9 {l : List UInt8} {k : IntKind} {b : Int} {h : Heap} (h0 : 0 ≤ b) (h2 : b ≤ l.length) : slE Try.prog 9 (str l) none (some (.int k b)) none h = some (str (l.take b.toNat)) := sl_str_h Try.underlying9 h0 h2
theorem sll_9 {l : List UInt8} {k : IntKind} {a : Int} {h : Heap} (h0 : 0 ≤ a) (h2 : a ≤ l.length) : slE Try.prog 9 (str l) (some (.int k a)) none none h = some (str (l.drop a.toNat)) := sl_str_l Try.underlying9 h0 h2
theorem slzb_33 {a : Option Addr} {n c : Nat} {k k' : IntKind} {lo hi : Int} {h : Heap} (h0 : 0 ≤ lo) (h1 : lo ≤ hi) (h2 : hi ≤ c) : slE Try.prog 33 (.slice a n c) (some (.int k lo)) (some (.int k' hi)) none h = some (.slice (slA a c lo.toNat 1) (hi.toNat - lo.toNat) (c - lo.toNat)) := sl_sl_lh slT_33 h0 h1 h2
theorem slzh_33 {a : Option Addr} {n c : Nat} {k : IntKind} {hi : Int} {h : Heap} (h0 : 0 ≤ hi) (h1 : hi ≤ c) : slE Try.prog 33 (.slice a n c) none (some (.int k hi)) none h = some (.slice (slA a c 0 1) (hi.toNat - 0) (c - 0)) := sl_sl_h slT_33 h0 h1
theorem slzl_33 {a : Option Addr} {n c : Nat} {k : IntKind} {lo : Int} {h : Heap} (h0 : 0 ≤ lo) (h1 : lo ≤ n) : slE Try.prog 33 (.slice a n c) (some (.int k lo)) none none h = some (.slice (slA a c lo.toNat 1) (n - lo.toNat) (c - lo.toNat)) := sl_sl_l slT_33 h0 h1
theorem zr_25 : zrT Try.prog 25 #[.int .i64 0] := by unfold zrT; kernel_rfl
theorem zr_3 : zrT Try.prog 3 #[.int .i64 0] := by unfold zrT; kernel_rfl
theorem zr_33 : zrT Try.prog 33 #[.slice none 0 0] := by unfold zrT; kernel_rfl
theorem zr_35 : zrT Try.prog 35 #[.int .i64 0, .int .u8 0, .bool false, .int .i64 0, .int .i64 0, .int .i64 0, .slice none 0 0, .slice none 0 0] := by unfold zrT; kernel_rfl
theorem zr_37 : zrT Try.prog 37 #[.slice none 0 0] := by unfold zrT; kernel_rfl
theorem zr_4 : zrT Try.prog 4 #[.bool false] := by unfold zrT; kernel_rfl
theorem zr_5 : zrT Try.prog 5 #[.int .u8 0] := by unfold zrT; kernel_rfl
theorem zr_52 : zrT Try.prog 52 #[.pointer none] := by unfold zrT; kernel_rfl
def ts := And.intro @able_10 (And.intro @able_11 (And.intro @able_12 (And.intro @able_13 (And.intro @able_14 (And.intro @able_15 (And.intro @able_16 (And.intro @able_17 (And.intro @able_18 (And.intro @able_19 (And.intro @able_20 (And.intro @able_21 (And.intro @able_22 (And.intro @able_23 (And.intro @able_24 (And.intro @able_25 (And.intro @able_26 (And.intro @able_27 (And.intro @able_28 (And.intro @able_29 (And.intro @able_3 (And.intro @able_30 (And.intro @able_31 (And.intro @able_32 (And.intro @able_33 (And.intro @able_34 (And.intro @able_35 (And.intro @able_36 (And.intro @able_37 (And.intro @able_38 (And.intro @able_39 (And.intro @able_4 (And.intro @able_40 (And.intro @able_41 (And.intro @able_42 (And.intro @able_43 (And.intro @able_44 (And.intro @able_45 (And.intro @able_46 (And.intro @able_47 (And.intro @able_48 (And.intro @able_49 (And.intro @able_5 (And.intro @able_6 (And.intro @able_7 (And.intro @able_8 (And.intro @able_9 (And.intro @bb_neq_4 (And.intro @bl_35_0 (And.intro @bl_35_0_1 (And.intro @bl_39_1 (And.intro @bl_52_0 (And.intro @bl_61_0 (And.intro @bl_68_0 (And.intro @cv_3_5 (And.intro @cv_3_74 (And.intro @cv_5_3 (And.intro @cv_5_74 (And.intro @cv_74_3 (And.intro @cv_74_5 (And.intro @cvl1_37_9 (And.intro @cvl2_37_9 (And.intro @cvl3_37_9 (And.intro @cvn_37_9 (And.intro @fa_35_0 (And.intro @fa_35_1 (And.intro @fa_35_2 (And.intro @fa_35_3 (And.intro @fa_35_4 (And.intro @fa_35_5 (And.intro @fa_35_6 (And.intro @fa_35_7 (And.intro @fa_39_0 (And.intro @fa_39_1 (And.intro @fa_52_0 (And.intro @fa_61_0 (And.intro @fa_61_1 (And.intro @fa_61_2 (And.intro @fa_61_3 (And.intro @fa_68_0 (And.intro @fa_68_1 (And.intro @fa_68_2 (And.intro @fa_68_3 (And.intro @ia_22 (And.intro @ia_33 (And.intro @ia_37 (And.intro @ia_47 (And.intro @ix_9 (And.intro @ldc_25 (And.intro @ldc_3 (And.intro @ldc_33 (And.intro @ldc_37 (And.intro @ldc_4 (And.intro @ldc_49 (And.intro @ldc_5 (And.intro @ldc_9 (And.intro @len_22 (And.intro @len_33 (And.intro @len_37 (And.intro @len_9 (And.intro @slb_9 (And.intro @slh_9 (And.intro @sll_9 (And.intro @slzb_33 (And.intro @slzh_33 (@slzl_33)))))))))))))))))))))))))))))))))))))))))))))))))))))))))))))))))))))))))))))))))))))))))))))))))))))))))
end Go.Proofs.Ytjpcpkhegjndeaa.T

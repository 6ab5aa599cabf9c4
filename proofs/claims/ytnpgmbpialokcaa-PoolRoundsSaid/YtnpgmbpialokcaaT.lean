/- Facts on the types of this seat's program, printed by a program. No condition. -/
import Derived.Test.YtnpgmbpialokcaaProg
import Derived.Test.YtnpgmbpialokcaaVcM
set_option maxRecDepth 100000
set_option linter.defProp false
namespace Go.Proofs.Ytnpgmbpialokcaa.T
open Go.Vc
theorem able_10 : callable Try.prog 10 = true := by kernel_rfl
theorem able_11 : callable Try.prog 11 = true := by kernel_rfl
theorem able_12 : callable Try.prog 12 = true := by kernel_rfl
theorem able_13 : callable Try.prog 13 = true := by kernel_rfl
theorem able_14 : callable Try.prog 14 = true := by kernel_rfl
theorem able_15 : callable Try.prog 15 = true := by kernel_rfl
theorem able_16 : callable Try.prog 16 = true := by kernel_rfl
theorem able_17 : callable Try.prog 17 = true := by kernel_rfl
theorem able_18 : callable Try.prog 18 = true := by kernel_rfl
theorem able_19 : callable Try.prog 19 = true := by kernel_rfl
theorem able_20 : callable Try.prog 20 = true := by kernel_rfl
theorem able_21 : callable Try.prog 21 = true := by kernel_rfl
theorem able_22 : callable Try.prog 22 = true := by kernel_rfl
theorem able_23 : callable Try.prog 23 = true := by kernel_rfl
theorem able_24 : callable Try.prog 24 = true := by kernel_rfl
theorem able_25 : callable Try.prog 25 = true := by kernel_rfl
theorem able_26 : callable Try.prog 26 = true := by kernel_rfl
theorem able_27 : callable Try.prog 27 = true := by kernel_rfl
theorem able_28 : callable Try.prog 28 = true := by kernel_rfl
theorem able_29 : callable Try.prog 29 = true := by kernel_rfl
theorem able_3 : callable Try.prog 3 = true := by kernel_rfl
theorem able_30 : callable Try.prog 30 = true := by kernel_rfl
theorem able_31 : callable Try.prog 31 = true := by kernel_rfl
theorem able_32 : callable Try.prog 32 = true := by kernel_rfl
theorem able_33 : callable Try.prog 33 = true := by kernel_rfl
theorem able_34 : callable Try.prog 34 = true := by kernel_rfl
theorem able_35 : callable Try.prog 35 = true := by kernel_rfl
theorem able_4 : callable Try.prog 4 = true := by kernel_rfl
theorem able_5 : callable Try.prog 5 = true := by kernel_rfl
theorem able_6 : callable Try.prog 6 = true := by kernel_rfl
theorem able_7 : callable Try.prog 7 = true := by kernel_rfl
theorem able_8 : callable Try.prog 8 = true := by kernel_rfl
theorem able_9 : callable Try.prog 9 = true := by kernel_rfl
theorem ag_37 : aggT Try.prog 37 5 = true := by kernel_rfl
theorem bb_neq_4 {x y : Operand} {a b : Bool} {h : Heap} : binE Try.prog .neq 4 x y (.bool a) (.bool b) h = some (.bool (decide (a ≠ b))) := bin_bool_neq Try.underlying4
theorem bl_37  {h : Heap} : bldE Try.prog 37 [] [] h = some (.agg #[.int .u8 0, str [], .int .u64 0, .int .u16 0, .int .u16 0]) := bldE_of (by kernel_rfl)
theorem bl_37_0 {n0 : Int} {h : Heap} : bldE Try.prog 37 [0] [.int .u8 n0] h = some (.agg #[.int .u8 n0, str [], .int .u64 0, .int .u16 0, .int .u16 0]) := bldE_of (by kernel_rfl)
theorem bl_37_0_1 {n0 : Int} {l1 : List UInt8} {h : Heap} : bldE Try.prog 37 [0, 1] [.int .u8 n0, str l1] h = some (.agg #[.int .u8 n0, str l1, .int .u64 0, .int .u16 0, .int .u16 0]) := bldE_of (by kernel_rfl)
theorem bl_60_0 {l0 : List UInt8} {h : Heap} : bldE Try.prog 60 [0] [str l0] h = some (.agg #[str l0, .int .i64 0, .int .i64 0, .int .i64 0]) := bldE_of (by kernel_rfl)
theorem cv_29_3 {k : IntKind} {n : Int} {h : Heap} : cvE Try.prog 29 3 (.int k n) h = some (.int .i64 (IntKind.i64.wrap n)) := cv_int Try.underlying29 Try.underlying3
theorem cv_29_35 {k : IntKind} {n : Int} {h : Heap} : cvE Try.prog 29 35 (.int k n) h = some (.int .u64 (IntKind.u64.wrap n)) := cv_int Try.underlying29 Try.underlying35
theorem cv_29_5 {k : IntKind} {n : Int} {h : Heap} : cvE Try.prog 29 5 (.int k n) h = some (.int .u8 (IntKind.u8.wrap n)) := cv_int Try.underlying29 Try.underlying5
theorem cv_35_29 {k : IntKind} {n : Int} {h : Heap} : cvE Try.prog 35 29 (.int k n) h = some (.int .u16 (IntKind.u16.wrap n)) := cv_int Try.underlying35 Try.underlying29
theorem cv_35_3 {k : IntKind} {n : Int} {h : Heap} : cvE Try.prog 35 3 (.int k n) h = some (.int .i64 (IntKind.i64.wrap n)) := cv_int Try.underlying35 Try.underlying3
theorem cv_35_5 {k : IntKind} {n : Int} {h : Heap} : cvE Try.prog 35 5 (.int k n) h = some (.int .u8 (IntKind.u8.wrap n)) := cv_int Try.underlying35 Try.underlying5
theorem cv_3_29 {k : IntKind} {n : Int} {h : Heap} : cvE Try.prog 3 29 (.int k n) h = some (.int .u16 (IntKind.u16.wrap n)) := cv_int Try.underlying3 Try.underlying29
theorem cv_3_35 {k : IntKind} {n : Int} {h : Heap} : cvE Try.prog 3 35 (.int k n) h = some (.int .u64 (IntKind.u64.wrap n)) := cv_int Try.underlying3 Try.underlying35
theorem cv_3_5 {k : IntKind} {n : Int} {h : Heap} : cvE Try.prog 3 5 (.int k n) h = some (.int .u8 (IntKind.u8.wrap n)) := cv_int Try.underlying3 Try.underlying5
theorem cv_5_29 {k : IntKind} {n : Int} {h : Heap} : cvE Try.prog 5 29 (.int k n) h = some (.int .u16 (IntKind.u16.wrap n)) := cv_int Try.underlying5 Try.underlying29
theorem cv_5_3 {k : IntKind} {n : Int} {h : Heap} : cvE Try.prog 5 3 (.int k n) h = some (.int .i64 (IntKind.i64.wrap n)) := cv_int Try.underlying5 Try.underlying3
theorem cv_5_35 {k : IntKind} {n : Int} {h : Heap} : cvE Try.prog 5 35 (.int k n) h = some (.int .u64 (IntKind.u64.wrap n)) := cv_int Try.underlying5 Try.underlying35
theorem cvb_49_9 {b o n c : Nat} {l : List UInt8} {h : Heap} (H : Rd h b o (bytesV l)) (hl : l.length = n) : cvE Try.prog 49 9 (.slice (some ⟨b, o, none⟩) n c) h = some (str l) := cv_bytes Try.underlying49 Try.underlying5 Try.underlying9 H hl
theorem cvl1_49_9 {k : Nat} {a : Int} {h : Heap} {e : TypeId} {fz : Nat × Nat} : cvE Try.prog 49 9 (.slice (some ⟨h.size, 0, none⟩) 1 k) (h.push (.cells #[.int .u8 a] e fz)) = some (str [UInt8.ofNat a.toNat]) := cv_lit1 Try.underlying49 Try.underlying5 Try.underlying9
theorem cvl2_49_9 {k : Nat} {a b : Int} {h : Heap} {e : TypeId} {fz : Nat × Nat} : cvE Try.prog 49 9 (.slice (some ⟨h.size, 0, none⟩) 2 k) (h.push (.cells #[.int .u8 a, .int .u8 b] e fz)) = some (str [UInt8.ofNat a.toNat, UInt8.ofNat b.toNat]) := cv_lit2 Try.underlying49 Try.underlying5 Try.underlying9
theorem cvl3_49_9 {k : Nat} {a b c : Int} {h : Heap} {e : TypeId} {fz : Nat × Nat} : cvE Try.prog 49 9 (.slice (some ⟨h.size, 0, none⟩) 3 k) (h.push (.cells #[.int .u8 a, .int .u8 b, .int .u8 c] e fz)) = some (str [UInt8.ofNat a.toNat, UInt8.ofNat b.toNat, UInt8.ofNat c.toNat]) := cv_lit3 Try.underlying49 Try.underlying5 Try.underlying9
theorem cvn_49_9 {n c : Nat} {h : Heap} : cvE Try.prog 49 9 (.slice none n c) h = some (str []) := cv_bytes_nil Try.underlying49 Try.underlying5 Try.underlying9
theorem cvo_49_9 {base n : Nat} {e : TypeId} {v : Value} {l : List UInt8} {h : Heap} (H : Own h base e 1 v n (bytesV l)) : cvE Try.prog 49 9 v h = some (str l) := cv_own Try.underlying49 Try.underlying5 Try.underlying9 H
theorem fa_37_0 {b o : Nat} {h : Heap} : faE Try.prog 37 (.pointer (some ⟨b, o, none⟩)) 0 h = some (.pointer (some ⟨b, o, none⟩)) := fa_of (off := 0) (by kernel_rfl)
theorem fa_37_1 {b o : Nat} {h : Heap} : faE Try.prog 37 (.pointer (some ⟨b, o, none⟩)) 1 h = some (.pointer (some ⟨b, o + 1, none⟩)) := fa_of (off := 1) (by kernel_rfl)
theorem fa_37_2 {b o : Nat} {h : Heap} : faE Try.prog 37 (.pointer (some ⟨b, o, none⟩)) 2 h = some (.pointer (some ⟨b, o + 2, none⟩)) := fa_of (off := 2) (by kernel_rfl)
theorem fa_37_3 {b o : Nat} {h : Heap} : faE Try.prog 37 (.pointer (some ⟨b, o, none⟩)) 3 h = some (.pointer (some ⟨b, o + 3, none⟩)) := fa_of (off := 3) (by kernel_rfl)
theorem fa_37_4 {b o : Nat} {h : Heap} : faE Try.prog 37 (.pointer (some ⟨b, o, none⟩)) 4 h = some (.pointer (some ⟨b, o + 4, none⟩)) := fa_of (off := 4) (by kernel_rfl)
theorem fa_60_0 {b o : Nat} {h : Heap} : faE Try.prog 60 (.pointer (some ⟨b, o, none⟩)) 0 h = some (.pointer (some ⟨b, o, none⟩)) := fa_of (off := 0) (by kernel_rfl)
theorem fa_60_1 {b o : Nat} {h : Heap} : faE Try.prog 60 (.pointer (some ⟨b, o, none⟩)) 1 h = some (.pointer (some ⟨b, o + 1, none⟩)) := fa_of (off := 1) (by kernel_rfl)
theorem fa_60_2 {b o : Nat} {h : Heap} : faE Try.prog 60 (.pointer (some ⟨b, o, none⟩)) 2 h = some (.pointer (some ⟨b, o + 2, none⟩)) := fa_of (off := 2) (by kernel_rfl)
theorem fa_60_3 {b o : Nat} {h : Heap} : faE Try.prog 60 (.pointer (some ⟨b, o, none⟩)) 3 h = some (.pointer (some ⟨b, o + 3, none⟩)) := fa_of (off := 3) (by kernel_rfl)
theorem ia_22 {b o n c : Nat} {k : IntKind} {i : Int} {h : Heap} (h0 : 0 ≤ i) (h1 : i < n) : iaE Try.prog 22 (.slice (some ⟨b, o, none⟩) n c) (.int k i) h = some (.pointer (some ⟨b, o + i.toNat * 1, none⟩)) := ia_of (by kernel_rfl) h0 h1
theorem ia_24 {b o n c : Nat} {k : IntKind} {i : Int} {h : Heap} (h0 : 0 ≤ i) (h1 : i < n) : iaE Try.prog 24 (.slice (some ⟨b, o, none⟩) n c) (.int k i) h = some (.pointer (some ⟨b, o + i.toNat * 1, none⟩)) := ia_of (by kernel_rfl) h0 h1
theorem ia_34 {b o n c : Nat} {k : IntKind} {i : Int} {h : Heap} (h0 : 0 ≤ i) (h1 : i < n) : iaE Try.prog 34 (.slice (some ⟨b, o, none⟩) n c) (.int k i) h = some (.pointer (some ⟨b, o + i.toNat * 5, none⟩)) := ia_of (by kernel_rfl) h0 h1
theorem ia_49 {b o n c : Nat} {k : IntKind} {i : Int} {h : Heap} (h0 : 0 ≤ i) (h1 : i < n) : iaE Try.prog 49 (.slice (some ⟨b, o, none⟩) n c) (.int k i) h = some (.pointer (some ⟨b, o + i.toNat * 1, none⟩)) := ia_of (by kernel_rfl) h0 h1
theorem ix_9 {l : List UInt8} {k : IntKind} {i : Int} {h : Heap} (h0 : 0 ≤ i) (h1 : i < l.length) : ixE Try.prog 9 (str l) (.int k i) h = some (.int .u8 ((l.getD i.toNat 0).toNat : Int)) := ix_str Try.underlying9 h0 h1
theorem ldc_29 {a : Addr} {h : Heap} : ld Try.prog 29 a h = cellAt h a := ld_cell (by kernel_rfl)
theorem ldc_3 {a : Addr} {h : Heap} : ld Try.prog 3 a h = cellAt h a := ld_cell (by kernel_rfl)
theorem ldc_35 {a : Addr} {h : Heap} : ld Try.prog 35 a h = cellAt h a := ld_cell (by kernel_rfl)
theorem ldc_38 {a : Addr} {h : Heap} : ld Try.prog 38 a h = cellAt h a := ld_cell (by kernel_rfl)
theorem ldc_5 {a : Addr} {h : Heap} : ld Try.prog 5 a h = cellAt h a := ld_cell (by kernel_rfl)
theorem ldc_9 {a : Addr} {h : Heap} : ld Try.prog 9 a h = cellAt h a := ld_cell (by kernel_rfl)
theorem len_22 {ty : TypeId} {a : Option Addr} {n c : Nat} {h : Heap} : lenE Try.prog 22 ty (.slice a n c) h = some (.int .i64 n) := len_slice Try.underlying22
theorem len_24 {ty : TypeId} {a : Option Addr} {n c : Nat} {h : Heap} : lenE Try.prog 24 ty (.slice a n c) h = some (.int .i64 n) := len_slice Try.underlying24
theorem len_34 {ty : TypeId} {a : Option Addr} {n c : Nat} {h : Heap} : lenE Try.prog 34 ty (.slice a n c) h = some (.int .i64 n) := len_slice Try.underlying34
theorem len_49 {ty : TypeId} {a : Option Addr} {n c : Nat} {h : Heap} : lenE Try.prog 49 ty (.slice a n c) h = some (.int .i64 n) := len_slice Try.underlying49
theorem len_9 {ty : TypeId} {l : List UInt8} {h : Heap} : lenE Try.prog 9 ty (str l) h = some (.int .i64 l.length) := len_str Try.underlying9
theorem slT_22 : slT Try.prog 22 3 1 8 = true := by kernel_rfl
theorem slT_24 : slT Try.prog 24 29 1 2 = true := by kernel_rfl
theorem slT_34 : slT Try.prog 34 37 5 40 = true := by kernel_rfl
theorem slT_49 : slT Try.prog 49 5 1 1 = true := by kernel_rfl
theorem slb_9 {l : List UInt8} {k k' : IntKind} {a b : Int} {h : Heap} (h0 : 0 ≤ a) (h1 : a ≤ b) (h2 : b ≤ l.length) : slE Try.prog 9 (str l) (some (.int k a)) (some (.int k' b)) none h = some (str ((l.take b.toNat).drop a.toNat)) := sl_str_lh Try.underlying9 h0 h1 h2
theorem slh_9 {l : List UInt8} {k : IntKind} {b : Int} {h : Heap} (h0 : 0 ≤ b) (h2 : b ≤ l.length) : slE Try.prog 9 (str l) none (some (.int k b)) none h = some (str (l.take b.toNat)) := sl_str_h Try.underlying9 h0 h2
theorem sll_9 {l : List UInt8} {k : IntKind} {a : Int} {h : Heap} (h0 : 0 ≤ a) (h2 : a ≤ l.length) : slE Try.prog 9 (str l) (some (.int k a)) none none h = some (str (l.drop a.toNat)) := sl_str_l Try.underlying9 h0 h2
theorem zr_29 : zrT Try.prog 29 #[.int .u16 0] := by unfold zrT; kernel_rfl
theorem zr_3 : zrT Try.prog 3 #[.int .i64 0] := by unfold zrT; kernel_rfl
theorem zr_35 : zrT Try.prog 35 #[.int .u64 0] := by unfold zrT; kernel_rfl
theorem zr_37 : zrT Try.prog 37 #[.int .u8 0, str [], .int .u64 0, .int .u16 0, .int .u16 0] := by unfold zrT; kernel_rfl
theorem zr_38 : zrT Try.prog 38 #[.int .i64 0] := by unfold zrT; kernel_rfl
theorem zr_5 : zrT Try.prog 5 #[.int .u8 0] := by unfold zrT; kernel_rfl
theorem zr_9 : zrT Try.prog 9 #[str []] := by unfold zrT; kernel_rfl
def ts := And.intro @able_10 (And.intro @able_11 (And.intro @able_12 (And.intro @able_13 (And.intro @able_14 (And.intro @able_15 (And.intro @able_16 (And.intro @able_17 (And.intro @able_18 (And.intro @able_19 (And.intro @able_20 (And.intro @able_21 (And.intro @able_22 (And.intro @able_23 (And.intro @able_24 (And.intro @able_25 (And.intro @able_26 (And.intro @able_27 (And.intro @able_28 (And.intro @able_29 (And.intro @able_3 (And.intro @able_30 (And.intro @able_31 (And.intro @able_32 (And.intro @able_33 (And.intro @able_34 (And.intro @able_35 (And.intro @able_4 (And.intro @able_5 (And.intro @able_6 (And.intro @able_7 (And.intro @able_8 (And.intro @able_9 (And.intro @bb_neq_4 (And.intro @bl_37 (And.intro @bl_37_0 (And.intro @bl_37_0_1 (And.intro @bl_60_0 (And.intro @cv_29_3 (And.intro @cv_29_35 (And.intro @cv_29_5 (And.intro @cv_35_29 (And.intro @cv_35_3 (And.intro @cv_35_5 (And.intro @cv_3_29 (And.intro @cv_3_35 (And.intro @cv_3_5 (And.intro @cv_5_29 (And.intro @cv_5_3 (And.intro @cv_5_35 (And.intro @cvl1_49_9 (And.intro @cvl2_49_9 (And.intro @cvl3_49_9 (And.intro @cvn_49_9 (And.intro @fa_37_0 (And.intro @fa_37_1 (And.intro @fa_37_2 (And.intro @fa_37_3 (And.intro @fa_37_4 (And.intro @fa_60_0 (And.intro @fa_60_1 (And.intro @fa_60_2 (And.intro @fa_60_3 (And.intro @ia_22 (And.intro @ia_24 (And.intro @ia_34 (And.intro @ia_49 (And.intro @ix_9 (And.intro @ldc_29 (And.intro @ldc_3 (And.intro @ldc_35 (And.intro @ldc_38 (And.intro @ldc_5 (And.intro @ldc_9 (And.intro @len_22 (And.intro @len_24 (And.intro @len_34 (And.intro @len_49 (And.intro @len_9 (And.intro @slb_9 (And.intro @slh_9 (@sll_9)))))))))))))))))))))))))))))))))))))))))))))))))))))))))))))))))))))))))))))))))
end Go.Proofs.Ytnpgmbpialokcaa.T

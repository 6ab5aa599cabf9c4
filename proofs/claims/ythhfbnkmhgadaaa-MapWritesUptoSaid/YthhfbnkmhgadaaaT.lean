/- Facts on the types of this seat's program, printed by a program. No condition. -/
import Derived.Test.YthhfbnkmhgadaaaProg
import Derived.Test.YthhfbnkmhgadaaaVcM
set_option maxRecDepth 100000
set_option linter.defProp false
namespace Go.Proofs.Ythhfbnkmhgadaaa.T
open Go.Vc
theorem able_10 : callable Try.prog 10 = true := by kernel_rfl
theorem able_11 : callable Try.prog 11 = true := by kernel_rfl
theorem able_12 : callable Try.prog 12 = true := by kernel_rfl
theorem able_16 : callable Try.prog 16 = true := by kernel_rfl
theorem able_17 : callable Try.prog 17 = true := by kernel_rfl
theorem able_18 : callable Try.prog 18 = true := by kernel_rfl
theorem able_19 : callable Try.prog 19 = true := by kernel_rfl
theorem able_20 : callable Try.prog 20 = true := by kernel_rfl
theorem able_3 : callable Try.prog 3 = true := by kernel_rfl
theorem able_34 : callable Try.prog 34 = true := by kernel_rfl
theorem able_35 : callable Try.prog 35 = true := by kernel_rfl
theorem able_36 : callable Try.prog 36 = true := by kernel_rfl
theorem able_37 : callable Try.prog 37 = true := by kernel_rfl
theorem able_42 : callable Try.prog 42 = true := by kernel_rfl
theorem able_43 : callable Try.prog 43 = true := by kernel_rfl
theorem able_44 : callable Try.prog 44 = true := by kernel_rfl
theorem able_45 : callable Try.prog 45 = true := by kernel_rfl
theorem able_46 : callable Try.prog 46 = true := by kernel_rfl
theorem able_47 : callable Try.prog 47 = true := by kernel_rfl
theorem able_48 : callable Try.prog 48 = true := by kernel_rfl
theorem able_6 : callable Try.prog 6 = true := by kernel_rfl
theorem able_7 : callable Try.prog 7 = true := by kernel_rfl
theorem able_8 : callable Try.prog 8 = true := by kernel_rfl
theorem able_9 : callable Try.prog 9 = true := by kernel_rfl
theorem ag_35 : aggT Try.prog 35 3 = true := by kernel_rfl
theorem ag_41 : aggT Try.prog 41 3 = true := by kernel_rfl
theorem ag_54 : aggT Try.prog 54 5 = true := by kernel_rfl
theorem bl_45_1 {a1 : Option Addr} {n1 c1 : Nat} {h : Heap} : bldE Try.prog 45 [1] [.slice a1 n1 c1] h = some (.agg #[.slice none 0 0, .slice a1 n1 c1, .int .i64 0]) := bldE_of (by kernel_rfl)
theorem cv_3_49 {k : IntKind} {n : Int} {h : Heap} : cvE Try.prog 3 49 (.int k n) h = some (.int .u64 (IntKind.u64.wrap n)) := cv_int Try.underlying3 Try.underlying49
theorem cv_3_5 {k : IntKind} {n : Int} {h : Heap} : cvE Try.prog 3 5 (.int k n) h = some (.int .u8 (IntKind.u8.wrap n)) := cv_int Try.underlying3 Try.underlying5
theorem cv_49_5 {k : IntKind} {n : Int} {h : Heap} : cvE Try.prog 49 5 (.int k n) h = some (.int .u8 (IntKind.u8.wrap n)) := cv_int Try.underlying49 Try.underlying5
theorem cv_52_3 {k : IntKind} {n : Int} {h : Heap} : cvE Try.prog 52 3 (.int k n) h = some (.int .i64 (IntKind.i64.wrap n)) := cv_int Try.underlying52 Try.underlying3
theorem cv_5_3 {k : IntKind} {n : Int} {h : Heap} : cvE Try.prog 5 3 (.int k n) h = some (.int .i64 (IntKind.i64.wrap n)) := cv_int Try.underlying5 Try.underlying3
theorem cvb_43_9 {b o n c : Nat} {l : List UInt8} {h : Heap} (H : Rd h b o (bytesV l)) (hl : l.length = n) : cvE Try.prog 43 9 (.slice (some ⟨b, o, none⟩) n c) h = some (str l) := cv_bytes Try.underlying43 Try.underlying5 Try.underlying9 H hl
theorem cvl1_43_9 {k : Nat} {a : Int} {h : Heap} {e : TypeId} {fz : Nat × Nat} : cvE Try.prog 43 9 (.slice (some ⟨h.size, 0, none⟩) 1 k) (h.push (.cells #[.int .u8 a] e fz)) = some (str [UInt8.ofNat a.toNat]) := cv_lit1 Try.underlying43 Try.underlying5 Try.underlying9
theorem cvl2_43_9 {k : Nat} {a b : Int} {h : Heap} {e : TypeId} {fz : Nat × Nat} : cvE Try.prog 43 9 (.slice (some ⟨h.size, 0, none⟩) 2 k) (h.push (.cells #[.int .u8 a, .int .u8 b] e fz)) = some (str [UInt8.ofNat a.toNat, UInt8.ofNat b.toNat]) := cv_lit2 Try.underlying43 Try.underlying5 Try.underlying9
theorem cvl3_43_9 {k : Nat} {a b c : Int} {h : Heap} {e : TypeId} {fz : Nat × Nat} : cvE Try.prog 43 9 (.slice (some ⟨h.size, 0, none⟩) 3 k) (h.push (.cells #[.int .u8 a, .int .u8 b, .int .u8 c] e fz)) = some (str [UInt8.ofNat a.toNat, UInt8.ofNat b.toNat, UInt8.ofNat c.toNat]) := cv_lit3 Try.underlying43 Try.underlying5 Try.underlying9
theorem cvn_43_9 {n c : Nat} {h : Heap} : cvE Try.prog 43 9 (.slice none n c) h = some (str []) := cv_bytes_nil Try.underlying43 Try.underlying5 Try.underlying9
theorem cvo_43_9 {base n : Nat} {e : TypeId} {v : Value} {l : List UInt8} {h : Heap} (H : Own h base e 1 v n (bytesV l)) : cvE Try.prog 43 9 v h = some (str l) := cv_own Try.underlying43 Try.underlying5 Try.underlying9 H
theorem fa_35_0 {b o : Nat} {h : Heap} : faE Try.prog 35 (.pointer (some ⟨b, o, none⟩)) 0 h = some (.pointer (some ⟨b, o, none⟩)) := fa_of (off := 0) (by kernel_rfl)
theorem fa_35_1 {b o : Nat} {h : Heap} : faE Try.prog 35 (.pointer (some ⟨b, o, none⟩)) 1 h = some (.pointer (some ⟨b, o + 1, none⟩)) := fa_of (off := 1) (by kernel_rfl)
theorem fa_35_2 {b o : Nat} {h : Heap} : faE Try.prog 35 (.pointer (some ⟨b, o, none⟩)) 2 h = some (.pointer (some ⟨b, o + 2, none⟩)) := fa_of (off := 2) (by kernel_rfl)
theorem fa_41_0 {b o : Nat} {h : Heap} : faE Try.prog 41 (.pointer (some ⟨b, o, none⟩)) 0 h = some (.pointer (some ⟨b, o, none⟩)) := fa_of (off := 0) (by kernel_rfl)
theorem fa_41_1 {b o : Nat} {h : Heap} : faE Try.prog 41 (.pointer (some ⟨b, o, none⟩)) 1 h = some (.pointer (some ⟨b, o + 1, none⟩)) := fa_of (off := 1) (by kernel_rfl)
theorem fa_41_2 {b o : Nat} {h : Heap} : faE Try.prog 41 (.pointer (some ⟨b, o, none⟩)) 2 h = some (.pointer (some ⟨b, o + 2, none⟩)) := fa_of (off := 2) (by kernel_rfl)
theorem fa_45_0 {b o : Nat} {h : Heap} : faE Try.prog 45 (.pointer (some ⟨b, o, none⟩)) 0 h = some (.pointer (some ⟨b, o, none⟩)) := fa_of (off := 0) (by kernel_rfl)
theorem fa_45_1 {b o : Nat} {h : Heap} : faE Try.prog 45 (.pointer (some ⟨b, o, none⟩)) 1 h = some (.pointer (some ⟨b, o + 1, none⟩)) := fa_of (off := 1) (by kernel_rfl)
theorem fa_45_2 {b o : Nat} {h : Heap} : faE Try.prog 45 (.pointer (some ⟨b, o, none⟩)) 2 h = some (.pointer (some ⟨b, o + 2, none⟩)) := fa_of (off := 2) (by kernel_rfl)
theorem fa_54_0 {b o : Nat} {h : Heap} : faE Try.prog 54 (.pointer (some ⟨b, o, none⟩)) 0 h = some (.pointer (some ⟨b, o, none⟩)) := fa_of (off := 0) (by kernel_rfl)
theorem fa_54_1 {b o : Nat} {h : Heap} : faE Try.prog 54 (.pointer (some ⟨b, o, none⟩)) 1 h = some (.pointer (some ⟨b, o + 1, none⟩)) := fa_of (off := 1) (by kernel_rfl)
theorem fa_54_3 {b o : Nat} {h : Heap} : faE Try.prog 54 (.pointer (some ⟨b, o, none⟩)) 3 h = some (.pointer (some ⟨b, o + 3, none⟩)) := fa_of (off := 3) (by kernel_rfl)
theorem ia_22 {b o n c : Nat} {k : IntKind} {i : Int} {h : Heap} (h0 : 0 ≤ i) (h1 : i < n) : iaE Try.prog 22 (.slice (some ⟨b, o, none⟩) n c) (.int k i) h = some (.pointer (some ⟨b, o + i.toNat * 3, none⟩)) := ia_of (by kernel_rfl) h0 h1
theorem ia_23 {b o n c : Nat} {k : IntKind} {i : Int} {h : Heap} (h0 : 0 ≤ i) (h1 : i < n) : iaE Try.prog 23 (.slice (some ⟨b, o, none⟩) n c) (.int k i) h = some (.pointer (some ⟨b, o + i.toNat * 5, none⟩)) := ia_of (by kernel_rfl) h0 h1
theorem ia_24 {b o n c : Nat} {k : IntKind} {i : Int} {h : Heap} (h0 : 0 ≤ i) (h1 : i < n) : iaE Try.prog 24 (.slice (some ⟨b, o, none⟩) n c) (.int k i) h = some (.pointer (some ⟨b, o + i.toNat * 3, none⟩)) := ia_of (by kernel_rfl) h0 h1
theorem ia_43 {b o n c : Nat} {k : IntKind} {i : Int} {h : Heap} (h0 : 0 ≤ i) (h1 : i < n) : iaE Try.prog 43 (.slice (some ⟨b, o, none⟩) n c) (.int k i) h = some (.pointer (some ⟨b, o + i.toNat * 1, none⟩)) := ia_of (by kernel_rfl) h0 h1
theorem ldc_23 {a : Addr} {h : Heap} : ld Try.prog 23 a h = cellAt h a := ld_cell (by kernel_rfl)
theorem ldc_24 {a : Addr} {h : Heap} : ld Try.prog 24 a h = cellAt h a := ld_cell (by kernel_rfl)
theorem ldc_27 {a : Addr} {h : Heap} : ld Try.prog 27 a h = cellAt h a := ld_cell (by kernel_rfl)
theorem ldc_3 {a : Addr} {h : Heap} : ld Try.prog 3 a h = cellAt h a := ld_cell (by kernel_rfl)
theorem ldc_42 {a : Addr} {h : Heap} : ld Try.prog 42 a h = cellAt h a := ld_cell (by kernel_rfl)
theorem ldc_43 {a : Addr} {h : Heap} : ld Try.prog 43 a h = cellAt h a := ld_cell (by kernel_rfl)
theorem ldc_5 {a : Addr} {h : Heap} : ld Try.prog 5 a h = cellAt h a := ld_cell (by kernel_rfl)
theorem ldc_52 {a : Addr} {h : Heap} : ld Try.prog 52 a h = cellAt h a := ld_cell (by kernel_rfl)
theorem ldc_9 {a : Addr} {h : Heap} : ld Try.prog 9 a h = cellAt h a := ld_cell (by kernel_rfl)
theorem len_22 {ty : TypeId} {a : Option Addr} {n c : Nat} {h : Heap} : lenE Try.prog 22 ty (.slice a n c) h = some (.int .i64 n) := len_slice Try.underlying22
theorem len_23 {ty : TypeId} {a : Option Addr} {n c : Nat} {h : Heap} : lenE Try.prog 23 ty (.slice a n c) h = some (.int .i64 n) := len_slice Try.underlying23
theorem len_24 {ty : TypeId} {a : Option Addr} {n c : Nat} {h : Heap} : lenE Try.prog 24 ty (.slice a n c) h = some (.int .i64 n) := len_slice Try.underlying24
theorem len_43 {ty : TypeId} {a : Option Addr} {n c : Nat} {h : Heap} : lenE Try.prog 43 ty (.slice a n c) h = some (.int .i64 n) := len_slice Try.underlying43
theorem slT_22 : slT Try.prog 22 41 3 56 = true := by kernel_rfl
theorem slT_23 : slT Try.prog 23 54 5 40 = true := by kernel_rfl
theorem slT_24 : slT Try.prog 24 35 3 32 = true := by kernel_rfl
theorem slT_43 : slT Try.prog 43 5 1 1 = true := by kernel_rfl
theorem slzb_23 {a : Option Addr} {n c : Nat} {k k' : IntKind} {lo hi : Int} {h : Heap} (h0 : 0 ≤ lo) (h1 : lo ≤ hi) (h2 : hi ≤ c) : slE Try.prog 23 (.slice a n c) (some (.int k lo)) (some (.int k' hi)) none h = some (.slice (slA a c lo.toNat 5) (hi.toNat - lo.toNat) (c - lo.toNat)) := sl_sl_lh slT_23 h0 h1 h2
theorem slzb_24 {a : Option Addr} {n c : Nat} {k k' : IntKind} {lo hi : Int} {h : Heap} (h0 : 0 ≤ lo) (h1 : lo ≤ hi) (h2 : hi ≤ c) : slE Try.prog 24 (.slice a n c) (some (.int k lo)) (some (.int k' hi)) none h = some (.slice (slA a c lo.toNat 3) (hi.toNat - lo.toNat) (c - lo.toNat)) := sl_sl_lh slT_24 h0 h1 h2
theorem slzh_23 {a : Option Addr} {n c : Nat} {k : IntKind} {hi : Int} {h : Heap} (h0 : 0 ≤ hi) (h1 : hi ≤ c) : slE Try.prog 23 (.slice a n c) none (some (.int k hi)) none h = some (.slice (slA a c 0 5) (hi.toNat - 0) (c - 0)) := sl_sl_h slT_23 h0 h1
theorem slzh_24 {a : Option Addr} {n c : Nat} {k : IntKind} {hi : Int} {h : Heap} (h0 : 0 ≤ hi) (h1 : hi ≤ c) : slE Try.prog 24 (.slice a n c) none (some (.int k hi)) none h = some (.slice (slA a c 0 3) (hi.toNat - 0) (c - 0)) := sl_sl_h slT_24 h0 h1
theorem slzl_23 {a : Option Addr} {n c : Nat} {k : IntKind} {lo : Int} {h : Heap} (h0 : 0 ≤ lo) (h1 : lo ≤ n) : slE Try.prog 23 (.slice a n c) (some (.int k lo)) none none h = some (.slice (slA a c lo.toNat 5) (n - lo.toNat) (c - lo.toNat)) := sl_sl_l slT_23 h0 h1
theorem slzl_24 {a : Option Addr} {n c : Nat} {k : IntKind} {lo : Int} {h : Heap} (h0 : 0 ≤ lo) (h1 : lo ≤ n) : slE Try.prog 24 (.slice a n c) (some (.int k lo)) none none h = some (.slice (slA a c lo.toNat 3) (n - lo.toNat) (c - lo.toNat)) := sl_sl_l slT_24 h0 h1
theorem zr_24 : zrT Try.prog 24 #[.slice none 0 0] := by unfold zrT; kernel_rfl
theorem zr_27 : zrT Try.prog 27 #[.int .i64 0] := by unfold zrT; kernel_rfl
theorem zr_35 : zrT Try.prog 35 #[.int .u8 0, str [], .int .i64 0] := by unfold zrT; kernel_rfl
theorem zr_41 : zrT Try.prog 41 #[.int .i64 0, .slice none 0 0, .slice none 0 0] := by unfold zrT; kernel_rfl
theorem zr_43 : zrT Try.prog 43 #[.slice none 0 0] := by unfold zrT; kernel_rfl
theorem zr_5 : zrT Try.prog 5 #[.int .u8 0] := by unfold zrT; kernel_rfl
def ts := And.intro @able_10 (And.intro @able_11 (And.intro @able_12 (And.intro @able_16 (And.intro @able_17 (And.intro @able_18 (And.intro @able_19 (And.intro @able_20 (And.intro @able_3 (And.intro @able_34 (And.intro @able_35 (And.intro @able_36 (And.intro @able_37 (And.intro @able_42 (And.intro @able_43 (And.intro @able_44 (And.intro @able_45 (And.intro @able_46 (And.intro @able_47 (And.intro @able_48 (And.intro @able_6 (And.intro @able_7 (And.intro @able_8 (And.intro @able_9 (And.intro @bl_45_1 (And.intro @cv_3_49 (And.intro @cv_3_5 (And.intro @cv_49_5 (And.intro @cv_52_3 (And.intro @cv_5_3 (And.intro @cvl1_43_9 (And.intro @cvl2_43_9 (And.intro @cvl3_43_9 (And.intro @cvn_43_9 (And.intro @fa_35_0 (And.intro @fa_35_1 (And.intro @fa_35_2 (And.intro @fa_41_0 (And.intro @fa_41_1 (And.intro @fa_41_2 (And.intro @fa_45_0 (And.intro @fa_45_1 (And.intro @fa_45_2 (And.intro @fa_54_0 (And.intro @fa_54_1 (And.intro @fa_54_3 (And.intro @ia_22 (And.intro @ia_23 (And.intro @ia_24 (And.intro @ia_43 (And.intro @ldc_23 (And.intro @ldc_24 (And.intro @ldc_27 (And.intro @ldc_3 (And.intro @ldc_42 (And.intro @ldc_43 (And.intro @ldc_5 (And.intro @ldc_52 (And.intro @ldc_9 (And.intro @len_22 (And.intro @len_23 (And.intro @len_24 (And.intro @len_43 (And.intro @slzb_23 (And.intro @slzb_24 (And.intro @slzh_23 (And.intro @slzh_24 (And.intro @slzl_23 (@slzl_24))))))))))))))))))))))))))))))))))))))))))))))))))))))))))))))))))))
end Go.Proofs.Ythhfbnkmhgadaaa.T

/-
  DERIVED. GIVEN WITH THE SEED: THE PROGRAM's TIES (one call each: nine closed facts by the kernel) AND EACH ROW's TIE, after the 31st guide's Derived/Test/Toyas{Tie, Card}.lean. No idea stands in it: it is a product of the set-up. Laid BY PROGRAM, IN A SANDBOX (cutbox-door.mjs). By AI agents, Wed Nov 11 2026. No macro, syntax, notation, axiom, sorry.
-/
import Derived.Test.YtmbboehmnfhjjaaGreatDoorRows
import Derived.LaidByTextLater
import Derived.SevenTiedAt
import Derived.LaidSub
import Derived.LaidOnce
namespace Go.Proofs.YtmbboehmnfhjjaaGreatDoor
open Go
set_option maxRecDepth 100000
theorem seatTie1 : Tryz.prog.laidByTextLater [("unicode/utf8.acceptRanges", Rows.laid_unicode_utf8_acceptRanges), ("unicode.White_Space", Rows.laid_unicode_White_Space), ("strings.asciiSpace", Rows.laid_strings_asciiSpace), ("jvmcore/verify.top", Rows.laid_jvmcore_verify_top), ("jvmcore/verify.int1", Rows.laid_jvmcore_verify_int1), ("jvmcore/verify.flt", Rows.laid_jvmcore_verify_flt), ("jvmcore/verify.dbl", Rows.laid_jvmcore_verify_dbl), ("jvmcore/verify.lng", Rows.laid_jvmcore_verify_lng), ("jvmcore/verify.null", Rows.laid_jvmcore_verify_null), ("jvmcore/verify.five", Rows.laid_jvmcore_verify_five)] [.data, .listed, .data, .data, .data, .data, .data, .data, .data, .data] true :=
  Program.laidByTextLater_by_one 83 8 257 (by kernel_rfl) (by kernel_rfl) (by kernel_rfl) (by kernel_rfl) (by kernel_rfl) (by kernel_rfl) (fun _ _ => by kernel_rfl)
theorem pin_laid_unicode_utf8_first : Tryz.pinned.checked.prog.pinnedFits "unicode/utf8.first" = true := by kernel_rfl
theorem noOwnUnsafe : Tryz.pinned.checked.prog.headLifts.contains "ownunsafe" = false := by kernel_rfl
theorem fits1 : Tryz.pinned.checked.prog.listedFits [("unicode/utf8.acceptRanges", Rows.laid_unicode_utf8_acceptRanges), ("unicode.White_Space", Rows.laid_unicode_White_Space), ("strings.asciiSpace", Rows.laid_strings_asciiSpace), ("jvmcore/verify.top", Rows.laid_jvmcore_verify_top), ("jvmcore/verify.int1", Rows.laid_jvmcore_verify_int1), ("jvmcore/verify.flt", Rows.laid_jvmcore_verify_flt), ("jvmcore/verify.dbl", Rows.laid_jvmcore_verify_dbl), ("jvmcore/verify.lng", Rows.laid_jvmcore_verify_lng), ("jvmcore/verify.null", Rows.laid_jvmcore_verify_null), ("jvmcore/verify.five", Rows.laid_jvmcore_verify_five), ("unicode/utf8.first", Rows.laid_unicode_utf8_first)] = true := by
  unfold Program.listedFits
  rw [noOwnUnsafe]
  kernel_rfl
theorem tie : Tryz.prog.laidByTextLater [("unicode/utf8.acceptRanges", Rows.laid_unicode_utf8_acceptRanges), ("unicode.White_Space", Rows.laid_unicode_White_Space), ("strings.asciiSpace", Rows.laid_strings_asciiSpace), ("jvmcore/verify.top", Rows.laid_jvmcore_verify_top), ("jvmcore/verify.int1", Rows.laid_jvmcore_verify_int1), ("jvmcore/verify.flt", Rows.laid_jvmcore_verify_flt), ("jvmcore/verify.dbl", Rows.laid_jvmcore_verify_dbl), ("jvmcore/verify.lng", Rows.laid_jvmcore_verify_lng), ("jvmcore/verify.null", Rows.laid_jvmcore_verify_null), ("jvmcore/verify.five", Rows.laid_jvmcore_verify_five)] [.data, .listed, .data, .data, .data, .data, .data, .data, .data, .data] true :=
  Program.laidByTextLater.sub seatTie1 ["unicode/utf8.acceptRanges", "unicode.White_Space", "strings.asciiSpace", "jvmcore/verify.top", "jvmcore/verify.int1", "jvmcore/verify.flt", "jvmcore/verify.dbl", "jvmcore/verify.lng", "jvmcore/verify.null", "jvmcore/verify.five"] (by kernel_rfl) (by kernel_rfl)
theorem linkDefines_row_tie : Rows.linkDefinesRow.laidByTextAt .later Tryz.pinned [.data, .listed, .data, .data, .data, .data, .data, .data, .data, .data, .pinned] true :=
  OpenClaim.laidByTextAt_pinned rfl rfl tie rfl rfl rfl rfl (fun y hy _e => by
    simp only [Rows.linkDefinesRow, List.zip_cons_cons, List.zip_nil_right, List.mem_cons, List.mem_nil_iff, or_false] at hy
    rcases hy with rfl | rfl | rfl | rfl | rfl | rfl | rfl | rfl | rfl | rfl | rfl
    · cases _e
    · cases _e
    · cases _e
    · cases _e
    · cases _e
    · cases _e
    · cases _e
    · cases _e
    · cases _e
    · cases _e
    · exact ⟨pin_laid_unicode_utf8_first, by kernel_rfl⟩) fits1
theorem linkDefinesUpto_row_tie : Rows.linkDefinesUptoRow.laidByTextAt .later Tryz.pinned [.data, .listed, .data, .data, .data, .data, .data, .data, .data, .data, .pinned] true :=
  OpenClaim.laidByTextAt_pinned rfl rfl tie rfl rfl rfl rfl (fun y hy _e => by
    simp only [Rows.linkDefinesUptoRow, List.zip_cons_cons, List.zip_nil_right, List.mem_cons, List.mem_nil_iff, or_false] at hy
    rcases hy with rfl | rfl | rfl | rfl | rfl | rfl | rfl | rfl | rfl | rfl | rfl
    · cases _e
    · cases _e
    · cases _e
    · cases _e
    · cases _e
    · cases _e
    · cases _e
    · cases _e
    · cases _e
    · cases _e
    · exact ⟨pin_laid_unicode_utf8_first, by kernel_rfl⟩) fits1
end Go.Proofs.YtmbboehmnfhjjaaGreatDoor

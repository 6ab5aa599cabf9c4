/- The forms of instructions, by the program and by the reference. The forms of instructions, by the reference. No condition. -/
import Derived.Test.YtflocjbhcjhenaaGreatDoorPa
import Derived.Test.YtflocjbhcjhenaaGreatDoorVcS
import Derived.Test.YtflocjbhcjhenaaGreatDoorCA
set_option linter.unusedSimpArgs false
set_option linter.unusedVariables false
namespace Go.Proofs.YtflocjbhcjhenaaGreatDoor
open Go.Vc
set_option maxRecDepth 100000
def formS (op : Nat) : Nat :=
  if op ≤ 15 then 0
  else if op ≤ 16 then 2
  else if op ≤ 17 then 3
  else if op ≤ 18 then 4
  else if op ≤ 19 then 5
  else if op ≤ 20 then 5
  else if op ≤ 25 then 6
  else if op ≤ 53 then 0
  else if op ≤ 58 then 6
  else if op ≤ 131 then 0
  else if op ≤ 132 then 7
  else if op ≤ 152 then 0
  else if op ≤ 167 then 8
  else if op ≤ 168 then 1
  else if op ≤ 169 then 1
  else if op ≤ 170 then 10
  else if op ≤ 171 then 11
  else if op ≤ 177 then 0
  else if op ≤ 184 then 5
  else if op ≤ 185 then 12
  else if op ≤ 186 then 1
  else if op ≤ 187 then 5
  else if op ≤ 188 then 13
  else if op ≤ 189 then 5
  else if op ≤ 191 then 0
  else if op ≤ 192 then 5
  else if op ≤ 193 then 5
  else if op ≤ 195 then 0
  else if op ≤ 196 then 15
  else if op ≤ 197 then 14
  else if op ≤ 198 then 8
  else if op ≤ 199 then 8
  else if op ≤ 200 then 9
  else if op ≤ 255 then 1
  else 1
set_option maxHeartbeats 8000000 in
theorem form_any (op : Nat) (hop : op < 256) (h : Heap) : HCalls Tryz.prog 88 #[.int .u8 op] h fun v h' => h' = h ∧ v = .int .i64 (formS op) := by
  refine C.code_form_calls (args := [.int .u8 op]) rfl ?_
  obtain ⟨f, hf⟩ : ∃ f, f = formS op := ⟨_, rfl⟩
  rw [← hf]
  unfold formS at hf
  have cs : (0 ≤ op ∧ op ≤ 15) ∨ (16 ≤ op ∧ op ≤ 16) ∨ (17 ≤ op ∧ op ≤ 17) ∨ (18 ≤ op ∧ op ≤ 18) ∨ (19 ≤ op ∧ op ≤ 19) ∨ (20 ≤ op ∧ op ≤ 20) ∨ (21 ≤ op ∧ op ≤ 25) ∨ (26 ≤ op ∧ op ≤ 53) ∨ (54 ≤ op ∧ op ≤ 58) ∨ (59 ≤ op ∧ op ≤ 131) ∨ (132 ≤ op ∧ op ≤ 132) ∨ (133 ≤ op ∧ op ≤ 152) ∨ (153 ≤ op ∧ op ≤ 167) ∨ (168 ≤ op ∧ op ≤ 168) ∨ (169 ≤ op ∧ op ≤ 169) ∨ (170 ≤ op ∧ op ≤ 170) ∨ (171 ≤ op ∧ op ≤ 171) ∨ (172 ≤ op ∧ op ≤ 177) ∨ (178 ≤ op ∧ op ≤ 184) ∨ (185 ≤ op ∧ op ≤ 185) ∨ (186 ≤ op ∧ op ≤ 186) ∨ (187 ≤ op ∧ op ≤ 187) ∨ (188 ≤ op ∧ op ≤ 188) ∨ (189 ≤ op ∧ op ≤ 189) ∨ (190 ≤ op ∧ op ≤ 191) ∨ (192 ≤ op ∧ op ≤ 192) ∨ (193 ≤ op ∧ op ≤ 193) ∨ (194 ≤ op ∧ op ≤ 195) ∨ (196 ≤ op ∧ op ≤ 196) ∨ (197 ≤ op ∧ op ≤ 197) ∨ (198 ≤ op ∧ op ≤ 198) ∨ (199 ≤ op ∧ op ≤ 199) ∨ (200 ≤ op ∧ op ≤ 200) ∨ (201 ≤ op ∧ op ≤ 255) := by omega
  rcases cs with c | c | c | c | c | c | c | c | c | c | c | c | c | c | c | c | c | c | c | c | c | c | c | c | c | c | c | c | c | c | c | c | c | c
  all_goals
    repeat (first | rw [if_pos (by omega)] at hf | rw [if_neg (by omega)] at hf)
    subst hf
    simp (disch := omega) only [C.code_form_gos, T.tv, seval, va]
    try rfl
end Go.Proofs.YtflocjbhcjhenaaGreatDoor
namespace Go.Proofs.YtflocjbhcjhenaaGreatDoor
open Go.Vc
set_option maxRecDepth 100000
def formsL : List UInt8 := (List.append (List.append [46, 46, 46, 46, 46, 46, 46, 46, 46, 46, 46, 46, 46, 46, 46, 46, 98, 115, 99, 105, 105, 108, 108, 108, 108, 108, 46, 46, 46, 46, 46, 46, 46, 46, 46, 46, 46, 46, 46, 46, 46, 46, 46, 46, 46, 46, 46, 46, 46, 46] [46, 46, 46, 46, 108, 108, 108, 108, 108, 46, 46, 46, 46, 46, 46, 46, 46, 46, 46, 46, 46, 46, 46, 46, 46, 46, 46, 46, 46, 46, 46, 46, 46, 46, 46, 46, 46, 46, 46, 46, 46, 46, 46, 46, 46, 46, 46, 46, 46, 46]) (List.append [46, 46, 46, 46, 46, 46, 46, 46, 46, 46, 46, 46, 46, 46, 46, 46, 46, 46, 46, 46, 46, 46, 46, 46, 46, 46, 46, 46, 46, 46, 46, 46, 110, 46, 46, 46, 46, 46, 46, 46, 46, 46, 46, 46, 46, 46, 46, 46, 46, 46] [46, 46, 46, 106, 106, 106, 106, 106, 106, 106, 106, 106, 106, 106, 106, 106, 106, 106, 120, 120, 116, 107, 46, 46, 46, 46, 46, 46, 105, 105, 105, 105, 105, 105, 105, 102, 120, 105, 97, 105, 46, 46, 105, 105, 46, 46, 119, 109, 106, 106, 74]))
theorem forms_str : (List.append (List.append [46, 46, 46, 46, 46, 46, 46, 46, 46, 46, 46, 46, 46, 46, 46, 46, 98, 115, 99, 105, 105, 108, 108, 108, 108, 108, 46, 46, 46, 46, 46, 46, 46, 46, 46, 46, 46, 46, 46, 46, 46, 46, 46, 46, 46, 46, 46, 46, 46, 46] [46, 46, 46, 46, 108, 108, 108, 108, 108, 46, 46, 46, 46, 46, 46, 46, 46, 46, 46, 46, 46, 46, 46, 46, 46, 46, 46, 46, 46, 46, 46, 46, 46, 46, 46, 46, 46, 46, 46, 46, 46, 46, 46, 46, 46, 46, 46, 46, 46, 46]) (List.append [46, 46, 46, 46, 46, 46, 46, 46, 46, 46, 46, 46, 46, 46, 46, 46, 46, 46, 46, 46, 46, 46, 46, 46, 46, 46, 46, 46, 46, 46, 46, 46, 110, 46, 46, 46, 46, 46, 46, 46, 46, 46, 46, 46, 46, 46, 46, 46, 46, 46] [46, 46, 46, 106, 106, 106, 106, 106, 106, 106, 106, 106, 106, 106, 106, 106, 106, 106, 120, 120, 116, 107, 46, 46, 46, 46, 46, 46, 105, 105, 105, 105, 105, 105, 105, 102, 120, 105, 97, 105, 46, 46, 105, 105, 46, 46, 119, 109, 106, 106, 74])) = formsL := by rfl
def frmL (op : Nat) : List UInt8 := if 201 ≤ op then [120] else (formsL.take (op + 1)).drop op
theorem formsL_len : formsL.length = 201 := by rfl
theorem rform_any (op : Nat) (hop : op < 256) (h : Heap) : HCalls Tryz.prog 98 #[.int .i64 op] h fun v h' => h' = h ∧ v = str (frmL op) := by
  refine C.ref2_form_calls (args := [.int .i64 op]) rfl ?_
  unfold frmL
  by_cases h2 : 201 ≤ op
  · have h2' : (201 : Int) ≤ op := by omega
    rw [if_pos h2]
    simp only [C.ref2_form_gos, T.tv, seval, h2']
  · have h2' : ¬ (201 : Int) ≤ op := by omega
    rw [if_neg h2]
    have hl : (op : Int) + 1 ≤ (formsL.length : Int) := by rw [formsL_len]; omega
    have ht : ((op : Int) + 1).toNat = op + 1 := by omega
    simp (disch := omega) only [C.ref2_form_gos, T.tv, seval, h2', forms_str, ht]
def letS (f : Nat) : UInt8 := [46, 120, 98, 115, 99, 105, 108, 110, 106, 74, 116, 107, 102, 97, 109, 119].getD f 0
theorem frm_eq : ∀ op, op < 256 → frmL op = [letS (formS op)] := by decide +kernel
theorem formS_lt : ∀ op, op < 256 → formS op < 16 := by decide +kernel
end Go.Proofs.YtflocjbhcjhenaaGreatDoor

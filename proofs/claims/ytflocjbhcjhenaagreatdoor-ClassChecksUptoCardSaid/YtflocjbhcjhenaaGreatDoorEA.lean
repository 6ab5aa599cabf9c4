/- Locals of instructions, by the program and by the reference. Room for locals, by the program and by the reference. Operands of instructions, plainly, and by the program. No condition. -/
import Derived.Test.YtflocjbhcjhenaaGreatDoorN3
import Derived.Test.YtflocjbhcjhenaaGreatDoorVcS
import Derived.Test.YtflocjbhcjhenaaGreatDoorMP
import Derived.Test.YtflocjbhcjhenaaGreatDoorDE
import Derived.Test.YtflocjbhcjhenaaGreatDoorCA
set_option linter.unusedSimpArgs false
set_option linter.unusedVariables false
namespace Go.Proofs.YtflocjbhcjhenaaGreatDoor
open Go.Vc
set_option maxRecDepth 100000
def twoP (op : Nat) : Bool := decide (op = 22 ∨ op = 24 ∨ op = 55 ∨ op = 57 ∨ (30 ≤ op ∧ op ≤ 33) ∨ (38 ≤ op ∧ op ≤ 41) ∨ (63 ≤ op ∧ op ≤ 66) ∨ (71 ≤ op ∧ op ≤ 74))
def lclP (op : Nat) (A : Int) : Int := if (21 ≤ op ∧ op ≤ 25) ∨ (54 ≤ op ∧ op ≤ 58) ∨ op = 132 then A else if 26 ≤ op ∧ op ≤ 45 then (((op - 26) % 4 : Nat) : Int) else if 59 ≤ op ∧ op ≤ 78 then (((op - 59) % 4 : Nat) : Int) else -1
def hasP (op : Nat) : Bool := decide ((21 ≤ op ∧ op ≤ 45) ∨ (54 ≤ op ∧ op ≤ 78) ∨ op = 132)
def roomP (op : Nat) (A L : Int) : Bool := !hasP op || (decide (0 ≤ lclP op A) && decide (lclP op A < L) && (!twoP op || decide (lclP op A + 1 < L)))
theorem formS_loc : ∀ op, op < 256 → (formS op = 6 ↔ (21 ≤ op ∧ op ≤ 25) ∨ (54 ≤ op ∧ op ≤ 58)) ∧ (formS op = 7 ↔ op = 132) := by decide +kernel
theorem frm_loc : ∀ op, op < 256 → (frmL op = [108] ↔ (21 ≤ op ∧ op ≤ 25) ∨ (54 ≤ op ∧ op ≤ 58)) ∧ (frmL op = [110] ↔ op = 132) := by decide +kernel
set_option maxHeartbeats 4000000 in
theorem wideLocal_any (op : Nat) (hop : op < 256) (h : Heap) : HCalls Tryz.prog 92 #[.int .u8 op] h fun v h' => h' = h ∧ v = .bool (twoP op) := by
  refine C.code_wideLocal_calls (args := [.int .u8 op]) rfl ?_
  have cs : (0 ≤ op ∧ op ≤ 21) ∨ op = 22 ∨ op = 23 ∨ op = 24 ∨ (25 ≤ op ∧ op ≤ 29) ∨ (30 ≤ op ∧ op ≤ 33) ∨ (34 ≤ op ∧ op ≤ 37) ∨ (38 ≤ op ∧ op ≤ 41) ∨ (42 ≤ op ∧ op ≤ 54) ∨ op = 55 ∨ op = 56 ∨ op = 57 ∨ (58 ≤ op ∧ op ≤ 62) ∨ (63 ≤ op ∧ op ≤ 66) ∨ (67 ≤ op ∧ op ≤ 70) ∨ (71 ≤ op ∧ op ≤ 74) ∨ (75 ≤ op ∧ op ≤ 255) := by omega
  rcases cs with c | c | c | c | c | c | c | c | c | c | c | c | c | c | c | c | c
  all_goals
    first | rw [show twoP op = true from decide_eq_true (by omega)] | rw [show twoP op = false from decide_eq_false (by omega)]
    simp (disch := omega) only [C.code_wideLocal_gos, T.tv, seval, va]
    try rfl
section
variable {x : In} {ak bk : Option Addr} {nk ck nb cb : Nat}
abbrev rowX (x : In) (ak bk : Option Addr) (nk ck nb cb : Nat) : Obj := .cells #[.int .i64 x.at', .int .u8 (x.op : Int), .bool x.wide, .int .i64 x.A, .int .i64 x.B, .int .i64 x.low, .slice ak nk ck, .slice bk nb cb] 98
abbrev aggX (x : In) (ak bk : Option Addr) (nk ck nb cb : Nat) : Value := .agg #[.int .i64 x.at', .int .u8 (x.op : Int), .bool x.wide, .int .i64 x.A, .int .i64 x.B, .int .i64 x.low, .slice ak nk ck, .slice bk nb cb]
set_option maxHeartbeats 8000000 in
theorem local_any (hop : x.op < 256) (h : Heap) : HCalls Tryz.prog 91 #[aggX x ak bk nk ck nb cb] h fun v h' => Ext h h' ∧ v = .int .i64 (lclP x.op x.A) := by
  refine C.code_Local_calls (args := [aggX x ak bk nk ck nb cb]) rfl ?_
  simp only [C.code_Local_gos, T.tv]
  refine eff_box ?_
  have E := Ext.push h (rowX x ak bk nk ck nb cb)
  have q1 : cellAt (h.push (rowX x ak bk nk ck nb cb)) ⟨h.size, 1, none⟩ = some (.int .u8 (x.op : Int)) := by rw [cellAt_push_new]; rfl
  have q3 : cellAt (h.push (rowX x ak bk nk ck nb cb)) ⟨h.size, 3, none⟩ = some (.int .i64 x.A) := by rw [cellAt_push_new]; rfl
  simp only [C.code_Local_gos, T.tv, seval]
  generalize h.push (rowX x ak bk nk ck nb cb) = h1 at *
  simp only [T.tv, q1]
  refine eff_callF rfl ((form_any x.op hop h1).mono ?_)
  rintro v2 h2 ⟨rfl, rfl⟩
  obtain ⟨op, hope⟩ : ∃ n, n = x.op := ⟨_, rfl⟩
  rw [← hope] at q1 hop ⊢
  have hf := formS_loc op hop
  have cs : formS op = 6 ∨ formS op = 7 ∨ (26 ≤ op ∧ op ≤ 45) ∨ (59 ≤ op ∧ op ≤ 78) ∨ (formS op ≠ 6 ∧ formS op ≠ 7 ∧ op < 26) ∨ (formS op ≠ 6 ∧ formS op ≠ 7 ∧ 45 < op ∧ op < 59) ∨ (formS op ≠ 6 ∧ formS op ≠ 7 ∧ 78 < op) := by omega
  rcases cs with c | c | c | c | c | c | c
  all_goals
    first
      | rw [show lclP op x.A = x.A from if_pos (by omega)]
      | rw [show lclP op x.A = ((op : Int) - 26) % 4 by unfold lclP; rw [if_neg (by omega), if_pos (by omega)]; omega]
      | rw [show lclP op x.A = ((op : Int) - 59) % 4 by unfold lclP; rw [if_neg (by omega), if_neg (by omega), if_pos (by omega)]; omega]
      | rw [show lclP op x.A = -1 by unfold lclP; rw [if_neg (by omega), if_neg (by omega), if_neg (by omega)]]
    simp (disch := omega) only [C.code_Local_gos, T.tv, seval, q1, q3, va]
    exact E
end
end Go.Proofs.YtflocjbhcjhenaaGreatDoor
namespace Go.Proofs.YtflocjbhcjhenaaGreatDoor
open Go.Vc
set_option maxRecDepth 100000
section
variable {x : In} {ak bk : Option Addr} {nk ck nb cb : Nat}
set_option maxHeartbeats 8000000 in
theorem room_any (hop : x.op < 256) (L : Int) (h : Heap) (hL : L < 9223372036854775808) : HCalls Tryz.prog 75 #[aggX x ak bk nk ck nb cb, .int .i64 L] h fun v h' => Ext h h' ∧ v = .bool (roomP x.op x.A L) := by
  refine C.code_room_calls (args := [aggX x ak bk nk ck nb cb, .int .i64 L]) rfl ?_
  simp only [C.code_room_gos, T.tv]
  refine eff_box ?_
  have E := Ext.push h (rowX x ak bk nk ck nb cb)
  have q0 : (h.push (rowX x ak bk nk ck nb cb))[h.size]? = some (rowX x ak bk nk ck nb cb) := by simp
  have q1 : cellAt (h.push (rowX x ak bk nk ck nb cb)) ⟨h.size, 1, none⟩ = some (.int .u8 (x.op : Int)) := by rw [cellAt_push_new]; rfl
  simp only [C.code_room_gos, T.tv, seval]
  generalize h.push (rowX x ak bk nk ck nb cb) = h1 at *
  generalize h.size = q at *
  simp only [T.tv, q1]
  refine eff_callF rfl ((form_any x.op hop h1).mono ?_)
  rintro v2 h2 ⟨rfl, rfl⟩
  have hf := formS_loc x.op hop
  have hld := ld_agg T.ag_98 (Rd_block (vs := [.int .i64 x.at', .int .u8 (x.op : Int), .bool x.wide, .int .i64 x.A, .int .i64 x.B, .int .i64 x.low, .slice ak nk ck, .slice bk nb cb]) q0) rfl
  generalize hn : lclP x.op x.A = n at *
  cases hh : hasP x.op with
  | false =>
    have h' : ¬ ((21 ≤ x.op ∧ x.op ≤ 45) ∨ (54 ≤ x.op ∧ x.op ≤ 78) ∨ x.op = 132) := of_decide_eq_false hh
    have f6' : ¬ ((formS x.op : Nat) : Int) = 6 := by omega
    have f7' : ¬ ((formS x.op : Nat) : Int) = 7 := by omega
    rw [show roomP x.op x.A L = true by unfold roomP; rw [hh]; rfl]
    rcases (by omega : x.op < 26 ∨ (45 < x.op ∧ x.op < 59) ∨ 78 < x.op) with c | c | c
    all_goals
      simp (disch := omega) only [C.code_room_gos, T.tv, seval, q1, va]
      exact E
  | true =>
    have h' : (21 ≤ x.op ∧ x.op ≤ 45) ∨ (54 ≤ x.op ∧ x.op ≤ 78) ∨ x.op = 132 := of_decide_eq_true hh
    rw [show roomP x.op x.A L = (decide (0 ≤ n) && decide (n < L) && (!twoP x.op || decide (n + 1 < L))) by unfold roomP; rw [hh, hn]; rfl]
    rcases (by omega : formS x.op = 6 ∨ formS x.op = 7 ∨ (26 ≤ x.op ∧ x.op ≤ 45) ∨ (59 ≤ x.op ∧ x.op ≤ 78)) with c | c | c | c
    all_goals
      simp (disch := omega) only [C.code_room_gos, T.tv, seval, q1, hld, va]
      refine eff_callF rfl ((local_any hop h2).mono ?_)
      rintro v3 h3 ⟨hx3, rfl⟩
      have q1' : cellAt h3 ⟨q, 1, none⟩ = some (.int .u8 (x.op : Int)) := by rw [cellAt_of (Fr_blk hx3 q0 _root_.id)]; rfl
      rw [hn]
      by_cases n0 : 0 ≤ n
      case neg =>
        rw [show decide (0 ≤ n) = false from decide_eq_false n0]
        simp only [C.code_room_gos, T.tv, seval, n0]
        exact ⟨E.trans hx3, by simp⟩
      by_cases nL : n < L
      case neg =>
        rw [show decide (n < L) = false from decide_eq_false nL]
        simp only [C.code_room_gos, T.tv, seval, n0, nL]
        exact ⟨E.trans hx3, by simp⟩
      rw [show decide (0 ≤ n) = true from decide_eq_true n0, show decide (n < L) = true from decide_eq_true nL]
      simp only [C.code_room_gos, T.tv, seval, q1', n0, nL]
      refine eff_callF rfl ((wideLocal_any x.op hop h3).mono ?_)
      rintro v4 h4 ⟨rfl, rfl⟩
      have el : decide (n < L - 1) = decide (n + 1 < L) := decide_eq_decide.2 (by omega)
      cases htw : twoP x.op
      all_goals
        simp (disch := omega) only [T.tv, el, seval]
        exact ⟨E.trans hx3, by simp⟩
set_option maxHeartbeats 16000000 in
theorem rlocal_any (hop : x.op < 256) (h : Heap) : HCalls Tryz.prog 101 #[aggX x ak bk nk ck nb cb] h fun v h' => Ext h h' ∧ v = .tuple #[.int .i64 (lclP x.op x.A), .bool (twoP x.op)] := by
  refine C.ref2_Local_calls (args := [aggX x ak bk nk ck nb cb]) rfl ?_
  simp only [C.ref2_Local_gos, T.tv]
  refine eff_box ?_
  have E := Ext.push h (rowX x ak bk nk ck nb cb)
  have q1 : cellAt (h.push (rowX x ak bk nk ck nb cb)) ⟨h.size, 1, none⟩ = some (.int .u8 (x.op : Int)) := by rw [cellAt_push_new]; rfl
  have q3 : cellAt (h.push (rowX x ak bk nk ck nb cb)) ⟨h.size, 3, none⟩ = some (.int .i64 x.A) := by rw [cellAt_push_new]; rfl
  have w0 : IntKind.i64.wrap (x.op : Int) = (x.op : Int) := wrap_i64 (by omega) (by omega)
  simp only [C.ref2_Local_gos, T.tv, seval]
  generalize h.push (rowX x ak bk nk ck nb cb) = h1 at *
  generalize h.size = q at *
  generalize x.A = vA at *
  generalize x.op = op at *
  have cs : (0 ≤ op ∧ op ≤ 20) ∨ op = 21 ∨ op = 22 ∨ op = 23 ∨ op = 24 ∨ op = 25 ∨ (26 ≤ op ∧ op ≤ 29) ∨ (30 ≤ op ∧ op ≤ 33) ∨ (34 ≤ op ∧ op ≤ 37) ∨ (38 ≤ op ∧ op ≤ 41) ∨ (42 ≤ op ∧ op ≤ 45) ∨ (46 ≤ op ∧ op ≤ 53) ∨ op = 54 ∨ op = 55 ∨ op = 56 ∨ op = 57 ∨ op = 58 ∨ (59 ≤ op ∧ op ≤ 62) ∨ (63 ≤ op ∧ op ≤ 66) ∨ (67 ≤ op ∧ op ≤ 70) ∨ (71 ≤ op ∧ op ≤ 74) ∨ (75 ≤ op ∧ op ≤ 78) ∨ (79 ≤ op ∧ op ≤ 131) ∨ op = 132 ∨ (133 ≤ op ∧ op ≤ 255) := by omega
  rcases cs with c | c | c | c | c | c | c | c | c | c | c | c | c | c | c | c | c | c | c | c | c | c | c | c | c
  all_goals
    first | rw [show twoP op = true from decide_eq_true (by omega)] | rw [show twoP op = false from decide_eq_false (by omega)]
    first
      | rw [show lclP op vA = vA from if_pos (by omega)]
      | rw [show lclP op vA = ((op : Int) - 26) % 4 by unfold lclP; rw [if_neg (by omega), if_pos (by omega)]; omega]
      | rw [show lclP op vA = ((op : Int) - 59) % 4 by unfold lclP; rw [if_neg (by omega), if_neg (by omega), if_pos (by omega)]; omega]
      | rw [show lclP op vA = -1 by unfold lclP; rw [if_neg (by omega), if_neg (by omega), if_neg (by omega)]]
    simp (disch := omega) only [C.ref2_Local_gos, T.tv, seval, q1, q3, va]
    exact E
set_option maxHeartbeats 8000000 in
theorem rroom_any (hop : x.op < 256) (L : Int) (h : Heap) (hL : L < 9223372036854775808) : HCalls Tryz.prog 79 #[aggX x ak bk nk ck nb cb, .int .i64 L] h fun v h' => Ext h h' ∧ v = .bool (roomP x.op x.A L) := by
  refine C.ref2_room_calls (args := [aggX x ak bk nk ck nb cb, .int .i64 L]) rfl ?_
  simp only [C.ref2_room_gos, T.tv]
  refine eff_box ?_
  have E := Ext.push h (rowX x ak bk nk ck nb cb)
  have q0 : (h.push (rowX x ak bk nk ck nb cb))[h.size]? = some (rowX x ak bk nk ck nb cb) := by simp
  have q1 : cellAt (h.push (rowX x ak bk nk ck nb cb)) ⟨h.size, 1, none⟩ = some (.int .u8 (x.op : Int)) := by rw [cellAt_push_new]; rfl
  have w0 : IntKind.i64.wrap (x.op : Int) = (x.op : Int) := wrap_i64 (by omega) (by omega)
  simp only [C.ref2_room_gos, T.tv, seval]
  generalize h.push (rowX x ak bk nk ck nb cb) = h1 at *
  generalize h.size = q at *
  simp only [C.ref2_room_gos, T.tv, seval, q1, w0]
  refine eff_callF rfl ((rform_any x.op hop h1).mono ?_)
  rintro v2 h2 ⟨rfl, rfl⟩
  have hf := frm_loc x.op hop
  have hld := ld_agg T.ag_98 (Rd_block (vs := [.int .i64 x.at', .int .u8 (x.op : Int), .bool x.wide, .int .i64 x.A, .int .i64 x.B, .int .i64 x.low, .slice ak nk ck, .slice bk nb cb]) q0) rfl
  generalize hn : lclP x.op x.A = n at *
  cases hh : hasP x.op with
  | false =>
    have h' : ¬ ((21 ≤ x.op ∧ x.op ≤ 45) ∨ (54 ≤ x.op ∧ x.op ≤ 78) ∨ x.op = 132) := of_decide_eq_false hh
    have f6' : ¬ frmL x.op = [108] := fun e => by have := hf.1.1 e; omega
    have f7' : ¬ frmL x.op = [110] := fun e => by have := hf.2.1 e; omega
    rw [show roomP x.op x.A L = true by unfold roomP; rw [hh]; rfl]
    simp only [T.tv, eq_false f6', seval]
    refine eff_callF rfl ((rform_any x.op hop h2).mono ?_)
    rintro v2 h2 ⟨rfl, rfl⟩
    rcases (by omega : x.op < 26 ∨ (45 < x.op ∧ x.op < 59) ∨ 78 < x.op) with c | c | c
    all_goals
      simp (disch := omega) only [C.ref2_room_gos, T.tv, seval, eq_false f7', va]
      exact E
  | true =>
    have h' : (21 ≤ x.op ∧ x.op ≤ 45) ∨ (54 ≤ x.op ∧ x.op ≤ 78) ∨ x.op = 132 := of_decide_eq_true hh
    rw [show roomP x.op x.A L = (decide (0 ≤ n) && decide (n < L) && (!twoP x.op || decide (n + 1 < L))) by unfold roomP; rw [hh, hn]; rfl]
    have hc : (frmL x.op = [108] ∧ ((21 ≤ x.op ∧ x.op ≤ 25) ∨ (54 ≤ x.op ∧ x.op ≤ 58))) ∨ (¬ frmL x.op = [108] ∧ frmL x.op = [110]) ∨ (¬ frmL x.op = [108] ∧ ¬ frmL x.op = [110] ∧ 26 ≤ x.op ∧ x.op ≤ 45) ∨ (¬ frmL x.op = [108] ∧ ¬ frmL x.op = [110] ∧ 59 ≤ x.op ∧ x.op ≤ 78) := by
      obtain ⟨a, b⟩ := hf
      by_cases f6 : frmL x.op = [108]
      · exact .inl ⟨f6, a.1 f6⟩
      by_cases f7 : frmL x.op = [110]
      · exact .inr (.inl ⟨f6, f7⟩)
      have f6n : ¬ ((21 ≤ x.op ∧ x.op ≤ 25) ∨ (54 ≤ x.op ∧ x.op ≤ 58)) := fun e => f6 (a.2 e)
      have f7n : ¬ x.op = 132 := fun e => f7 (b.2 e)
      by_cases d : x.op ≤ 45
      · exact .inr (.inr (.inl ⟨f6, f7, by omega, d⟩))
      · exact .inr (.inr (.inr ⟨f6, f7, by omega, by omega⟩))
    rcases hc with ⟨c, _⟩ | ⟨c, d⟩ | ⟨c, d, _, _⟩ | ⟨c, d, _, _⟩
    all_goals
      simp only [C.ref2_room_gos, T.tv, seval, hld, c]
      try refine eff_callF rfl ((rform_any x.op hop h2).mono ?_)
      try rintro v2 h2 ⟨rfl, rfl⟩
      try simp (disch := omega) only [C.ref2_room_gos, T.tv, seval, hld, d, va]
      refine eff_callF rfl ((rlocal_any hop _).mono ?_)
      rintro v3 h3 ⟨hx3, rfl⟩
      rw [hn]
      by_cases n0 : n < 0
      case pos =>
        rw [show decide (0 ≤ n) = false from decide_eq_false (by omega)]
        simp only [C.ref2_room_gos, T.tv, seval, n0]
        exact ⟨E.trans hx3, by simp⟩
      by_cases nL : L ≤ n
      case pos =>
        rw [show decide (n < L) = false from decide_eq_false (by omega)]
        simp only [C.ref2_room_gos, T.tv, seval, n0, nL]
        exact ⟨E.trans hx3, by simp⟩
      rw [show decide (0 ≤ n) = true from decide_eq_true (by omega), show decide (n < L) = true from decide_eq_true (by omega)]
      have el : decide (1 < L - n) = decide (n + 1 < L) := decide_eq_decide.2 (by omega)
      cases htw : twoP x.op
      all_goals
        simp (disch := omega) only [C.ref2_room_gos, T.tv, seval, n0, nL, el]
        exact ⟨E.trans hx3, by simp⟩
end
end Go.Proofs.YtflocjbhcjhenaaGreatDoor
namespace Go.Proofs.YtflocjbhcjhenaaGreatDoor
open Go.Vc
set_option maxRecDepth 100000
def strS (p : List Cst) (k : Nat) : List UInt8 := if isS p k 1 = true then (p.getD k Cst.zero).text else []
def isI (p : List Cst) (A : Int) (t : Nat) : Bool := decide (0 ≤ A) && isS p A.toNat t
def nameI (p : List Cst) (A : Int) : List UInt8 := strS p (p.getD A.toNat Cst.zero).a
def slotsP (ts : List (List UInt8)) : Nat := (ts.map slotP).sum
def calledP (op : Nat) (B : Int) (p : List Cst) (b : Nat) : Bool :=
  isS p b 12 && (!(decide (memP (strS p (p.getD b Cst.zero).a) true = 3) || (decide (memP (strS p (p.getD b Cst.zero).a) true = 2) && decide (op ≠ 183))) &&
    ((methP (strS p (p.getD b Cst.zero).b)).isSome && (decide (op ≠ 185) || decide (((1 + slotsP (mT (strS p (p.getD b Cst.zero).b)) : Nat) : Int) = B))))
def operP (op : Nat) (A B : Int) (p : List Cst) : Bool :=
  if op = 18 ∨ op = 19 then [3, 4, 8].any (isI p A)
  else if op = 20 then [5, 6].any (isI p A)
  else if 178 ≤ op ∧ op ≤ 181 then [9].any (isI p A)
  else if 182 ≤ op ∧ op ≤ 184 then [10].any (isI p A) && calledP op B p (p.getD A.toNat Cst.zero).b
  else if op = 185 then [11].any (isI p A) && calledP op B p (p.getD A.toNat Cst.zero).b
  else if op = 187 then [7].any (isI p A) && decide (nbr (nameI p A) = 0)
  else if op = 189 then [7].any (isI p A) && decide (nbr (nameI p A) < 255)
  else if op = 192 ∨ op = 193 then [7].any (isI p A)
  else if op = 197 then [7].any (isI p A) && decide (B ≤ (nbr (nameI p A) : Int))
  else true
theorem strS_len {p : List Cst} (H : ∀ c ∈ p, c.text.length ≤ 4294967296) (k : Nat) : (strS p k).length ≤ 4294967296 := by
  unfold strS
  split
  · rename_i h
    unfold isS at h
    simp only [Bool.and_eq_true, decide_eq_true_eq] at h
    exact H _ (by simp [h.1])
  · simp
theorem isS_lt {p : List Cst} {k t : Nat} (h : isS p k t = true) : 0 < k ∧ k < p.length := by
  unfold isS at h
  simp only [Bool.and_eq_true, decide_eq_true_eq] at h
  exact ⟨h.2.1, h.1⟩
def u16n (A : Int) : Nat := (A % 65536).toNat
theorem u16n_lt (A : Int) : u16n A < 65536 := by unfold u16n; omega
theorem u16n_wrap (A : Int) : IntKind.u16.wrap A = ((u16n A : Nat) : Int) := by
  unfold u16n
  simp only [IntKind.wrap, IntKind.signed, IntKind.bits]
  first | (simp; done) | (simp; omega) | omega
theorem isI_eq {p : List Cst} (hp : p.length ≤ 65536) (A : Int) (t : Nat) : isI p A t = (decide (((u16n A : Nat) : Int) = A) && isS p (u16n A) t) := by
  unfold isI u16n
  by_cases h0 : 0 ≤ A
  · by_cases h1 : A < 65536
    · rw [decide_eq_true h0, decide_eq_true (by omega), show (A % 65536).toNat = A.toNat by omega]
    · rw [decide_eq_false (show ¬ (((A % 65536).toNat : Nat) : Int) = A by omega), Bool.false_and]
      have : ¬ A.toNat < p.length := by omega
      unfold isS
      rw [decide_eq_false this]; simp
  · rw [decide_eq_false h0, decide_eq_false (show ¬ (((A % 65536).toNat : Nat) : Int) = A by omega)]
    simp
theorem dims_any {h : Heap} (l : List UInt8) (hl : l.length ≤ 4294967296) : HCalls Tryz.prog 96 #[str l] h fun v h' => h' = h ∧ v = .int .i64 (nbr l : Nat) := by
  refine C.code_dims_calls (args := [str l]) rfl ?_
  simp only [C.code_dims_gos, T.tv, seval]
  refine loop_intro [0, 3] (fun m ρ hc => ∃ i : Nat, m = l.length - i ∧ i ≤ l.length ∧ ρ = [(0, str l), (3, .int .i64 (i : Int))] ∧ hc = h ∧ nbr l = i + nbr (l.drop i)) ?_ ?_
  · simp only [T.tv, seval]
    exact ⟨_, 0, rfl, Nat.zero_le _, rfl, by simp⟩
  rintro m ρ hc ⟨i, rfl, hi, rfl, rfl, hn⟩
  by_cases hlt : i < l.length
  · have hlt' : (i : Int) < (l.length : Int) := by omega
    have hd : l.drop i = l.getD i 0 :: l.drop (i + 1) := by rw [List.drop_eq_getElem_cons hlt]; simp [hlt]
    by_cases hb : l.getD i 0 = 91
    · have hb' : ((l.getD i 0).toNat : Int) = 91 := by rw [hb]; rfl
      have w1 : IntKind.i64.wrap ((i : Int) + 1) = ((i + 1 : Nat) : Int) := by rw [wrap_i64 (by omega) (by omega)]; omega
      simp (disch := omega) only [C.code_dims_gos, T.tv, seval, hlt', hb', w1]
      refine ⟨l.length - (i + 1), by omega, i + 1, rfl, by omega, rfl, ?_⟩
      rw [hn, hd, nbr, if_pos hb]; omega
    · have hb' : ¬ ((l.getD i 0).toNat : Int) = 91 := by
        intro e; apply hb; apply UInt8.toNat_inj.1; show _ = 91; omega
      have hni : nbr l = i := by rw [hn, hd, nbr, if_neg hb]; rfl
      rw [hni]
      simp (disch := omega) only [C.code_dims_gos, T.tv, seval, hlt', hb']
  · have hil : i = l.length := by omega
    subst hil
    have hlt' : ¬ (l.length : Int) < (l.length : Int) := by omega
    have hni : nbr l = l.length := by rw [hn, List.drop_length]; rfl
    rw [hni]
    simp only [C.code_dims_gos, T.tv, seval, hlt']
section
variable {p : List Cst} {vp : Value} {g1 g2 g3 : Nat} {A : Int}
theorem cis_any {h : Heap} {tv : Value} (ts : List Nat) (hlen : ts.length ≤ 1000) (hts : Sl h tv (ts.map fun t : Nat => .int .u8 (t : Int)))
    (c1 : cellAt h ⟨g1, 0, none⟩ = some (.int .u16 ((u16n A : Nat) : Int))) (c2 : cellAt h ⟨g2, 3, none⟩ = some (.int .i64 A)) (c3 : cellAt h ⟨g3, 0, none⟩ = some vp) (hp : p.length ≤ 65536) (hs : SlN h 5 vp p.length (flatS p)) :
    HCalls Tryz.prog 93 #[tv, .pointer (some ⟨g1, 0, none⟩), .pointer (some ⟨g2, 0, none⟩), .pointer (some ⟨g3, 0, none⟩)] h fun v h' => h' = h ∧ v = .bool (ts.any (isI p A)) := by
  refine C.code_is_calls (args := [tv, .pointer (some ⟨g1, 0, none⟩), .pointer (some ⟨g2, 0, none⟩), .pointer (some ⟨g3, 0, none⟩)]) rfl ?_
  have hts' := hts
  obtain ⟨a, c, rfl, _⟩ := hts'
  rw [List.length_map]
  simp only [C.code_is_gos, T.tv, seval]
  refine loop_intro [1, 2, 3, 8, 9, 10] (fun m ρ hc => ∃ i : Nat, m = ts.length - i ∧ i ≤ ts.length ∧
    ρ = [(1, .pointer (some ⟨g1, 0, none⟩)), (2, .pointer (some ⟨g2, 0, none⟩)), (3, .pointer (some ⟨g3, 0, none⟩)), (8, .slice a ts.length c), (9, .int .i64 (ts.length : Int)), (10, .int .i64 (i : Int))] ∧ hc = h ∧ (ts.take i).any (isI p A) = false) ?_ ?_
  · simp only [T.tv, seval]
    exact ⟨_, 0, rfl, Nat.zero_le _, rfl, by simp⟩
  rintro m ρ hc ⟨i, rfl, hi, rfl, rfl, hno⟩
  by_cases hlt : i < ts.length
  · have hlt' : (i : Int) < (ts.length : Int) := by omega
    obtain ⟨b, o, c', heq, _, hcell⟩ := hts.at (i := i) (by simpa using hlt)
    rw [List.length_map] at heq
    cases heq
    have hcell' : cellAt hc ⟨b, o + i, none⟩ = some (.int .u8 ((ts.getD i 0 : Nat) : Int)) := by rw [hcell]; simp [hlt]
    have hst : ts.take (i + 1) = ts.take i ++ [ts.getD i 0] := by rw [List.take_add_one]; simp [hlt]
    have hmem : ts.getD i 0 ∈ ts := by simp [hlt]
    have w1 : IntKind.i64.wrap ((i : Int) + 1) = ((i + 1 : Nat) : Int) := by rw [wrap_i64 (by omega) (by omega)]; omega
    have w2 : IntKind.i64.wrap ((u16n A : Nat) : Int) = ((u16n A : Nat) : Int) := by have := u16n_lt A; rw [wrap_i64 (by omega) (by omega)]
    have hisI := isI_eq hp A (ts.getD i 0)
    generalize ts.getD i 0 = t at *
    have nxt : isI p A t = false → ∃ m' < ts.length - i, ∃ j : Nat, m' = ts.length - j ∧ j ≤ ts.length ∧
        ([(1, .pointer (some ⟨g1, 0, none⟩)), (2, .pointer (some ⟨g2, 0, none⟩)), (3, .pointer (some ⟨g3, 0, none⟩)), (8, .slice (some ⟨b, o, none⟩) ts.length c), (9, .int .i64 (ts.length : Int)), (10, .int .i64 ((i + 1 : Nat) : Int))] : Env) =
        [(1, .pointer (some ⟨g1, 0, none⟩)), (2, .pointer (some ⟨g2, 0, none⟩)), (3, .pointer (some ⟨g3, 0, none⟩)), (8, .slice (some ⟨b, o, none⟩) ts.length c), (9, .int .i64 (ts.length : Int)), (10, .int .i64 (j : Int))] ∧ (ts.take j).any (isI p A) = false := by
      intro hf
      refine ⟨ts.length - (i + 1), by omega, i + 1, rfl, by omega, rfl, ?_⟩
      rw [hst, List.any_append, hno]
      simp [hf]
    by_cases hk : ((u16n A : Nat) : Int) = A
    · rw [decide_eq_true hk, Bool.true_and] at hisI
      have hdk : decide (((u16n A : Nat) : Int) = A) = true := decide_eq_true hk
      simp (disch := omega) only [C.code_is_gos, T.tv, seval, hlt', hcell', c1, c2, c3, w2, hdk]
      refine eff_callF rfl ((is_any (u16n A) t (u16n_lt A) hs).mono ?_)
      rintro v1 h1 ⟨rfl, rfl⟩
      rw [← hisI]
      cases hb : isI p A t with
      | true =>
        simp only [C.code_is_gos, T.tv, seval]
        have : ts.any (isI p A) = true := List.any_eq_true.2 ⟨t, hmem, hb⟩
        rw [this]
      | false =>
        simp only [C.code_is_gos, T.tv, seval, w1]
        exact nxt hb
    · rw [decide_eq_false hk, Bool.false_and] at hisI
      have hdk : decide (((u16n A : Nat) : Int) = A) = false := decide_eq_false hk
      simp (disch := omega) only [C.code_is_gos, T.tv, seval, hlt', hcell', c1, c2, w2, hdk, w1]
      exact nxt hisI
  · have hlt' : ¬ (i : Int) < (ts.length : Int) := by omega
    rw [List.take_of_length_le (by omega)] at hno
    rw [hno]
    simp only [C.code_is_gos, T.tv, seval, hlt']
theorem cclass_any {h : Heap} {k : Nat} (hk : k < p.length) (hk6 : k < 65536) (hf : ∀ c ∈ p, c.Fit)
    (c1 : cellAt h ⟨g1, 0, none⟩ = some (.int .u16 (k : Int))) (c3 : cellAt h ⟨g3, 0, none⟩ = some vp) (hs : SlN h 5 vp p.length (flatS p)) :
    HCalls Tryz.prog 94 #[.pointer (some ⟨g3, 0, none⟩), .pointer (some ⟨g1, 0, none⟩)] h fun v h' => h' = h ∧ v = str (strS p (p.getD k Cst.zero).a) := by
  refine C.code_class_calls (args := [.pointer (some ⟨g3, 0, none⟩), .pointer (some ⟨g1, 0, none⟩)]) rfl ?_
  have hk' : (k : Int) < (p.length : Int) := by omega
  obtain ⟨b, o, c', rfl, hrd, _⟩ := hs.at hk
  rw [flatS_at hk] at hrd
  have hfa : (p.getD k Cst.zero).a < 65536 := (hf _ (by simp [hk])).a
  generalize p.getD k Cst.zero = x at *
  have c4 : cellAt h ⟨b, o + k * 5 + 3, none⟩ = some (.int .u16 (x.a : Int)) := hrd 3 _ rfl
  simp (disch := omega) only [C.code_class_gos, T.tv, seval, c1, c3, c4]
  refine eff_callF rfl ((string_any x.a hfa hs).mono ?_)
  rintro v1 h1 ⟨rfl, rfl⟩
  simp only [T.tv, seval]
  rfl
end
end Go.Proofs.YtflocjbhcjhenaaGreatDoor

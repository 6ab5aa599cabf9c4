/- Calls of methods as operands, by the program. Operands of instructions, by the program. Operands of instructions, by the reference. The first instruction whose operand may not be, by both; the law. No condition. -/
import Derived.Test.YtflocjbhcjhenaaGreatDoorEA
import Derived.Test.YtflocjbhcjhenaaGreatDoorVcS
set_option linter.unusedSimpArgs false
set_option linter.unusedVariables false
namespace Go.Proofs.YtflocjbhcjhenaaGreatDoor
open Go.Vc
set_option maxRecDepth 100000
section
variable {x : In} {ak bk : Option Addr} {nk ck nb cb : Nat} {p : List Cst} {vp : Value}
abbrev cstA (c : Cst) : Value := .agg #[.int .u8 (c.tag : Int), str c.text, .int .u64 (c.bits : Int), .int .u16 (c.a : Int), .int .u16 (c.b : Int)]
theorem slotsP_le (ts : List (List UInt8)) : slotsP ts ≤ 2 * ts.length := by
  unfold slotsP
  induction ts with
  | nil => simp
  | cons t r ih => rw [List.map_cons, List.sum_cons, List.length_cons]; have := slotP_le t; omega
theorem slotsP_snoc (ts : List (List UInt8)) (t : List UInt8) : slotsP (ts ++ [t]) = slotsP ts + slotP t := by simp [slotsP]
theorem slotsP_take {ts : List (List UInt8)} (i : Nat) : slotsP (ts.take i) ≤ 2 * ts.length := by
  have := slotsP_le (ts.take i)
  rw [List.length_take] at this; omega
theorem strS_any {h : Heap} (k : Nat) (hk : k < 65536) (hs : SlN h 5 vp p.length (flatS p)) :
    HCalls Tryz.prog 48 #[vp, .int .u16 k] h fun v h' => h' = h ∧ v = str (strS p k) := string_any k hk hs
set_option maxHeartbeats 2000000 in
theorem called_any {h : Heap} (c : Cst) (hcb : c.b < 65536) (hf : ∀ c ∈ p, c.Fit) (htx : ∀ c ∈ p, c.text.length ≤ 4294967296) (hs : SlN h 5 vp p.length (flatS p)) :
    HCalls Tryz.prog 95 #[aggX x ak bk nk ck nb cb, vp, cstA c] h fun v h' => Ext h h' ∧ v = .bool (calledP x.op x.B p c.b) := by
  refine C.code_called_calls (args := [aggX x ak bk nk ck nb cb, vp, cstA c]) rfl ?_
  simp only [C.code_called_gos, T.tv]
  refine eff_box ?_
  have q0 : (h.push (rowX x ak bk nk ck nb cb))[h.size]? = some (rowX x ak bk nk ck nb cb) := by simp
  have E1 := Ext.push h (rowX x ak bk nk ck nb cb)
  simp only [T.tv, seval]
  generalize h.push (rowX x ak bk nk ck nb cb) = h1 at *
  generalize h.size = q at *
  refine eff_box ?_
  have E2 := Ext.push h1 (.cells #[.int .u8 (c.tag : Int), str c.text, .int .u64 (c.bits : Int), .int .u16 (c.a : Int), .int .u16 (c.b : Int)] 38)
  have q4 : cellAt (h1.push (.cells #[.int .u8 (c.tag : Int), str c.text, .int .u64 (c.bits : Int), .int .u16 (c.a : Int), .int .u16 (c.b : Int)] 38)) ⟨h1.size, 4, none⟩ = some (.int .u16 (c.b : Int)) := by rw [cellAt_push_new]; rfl
  simp only [C.code_called_gos, T.tv, seval]
  have q0 := push_blk (o' := .cells #[.int .u8 (c.tag : Int), str c.text, .int .u64 (c.bits : Int), .int .u16 (c.a : Int), .int .u16 (c.b : Int)] 38) q0
  generalize h1.push (.cells #[.int .u8 (c.tag : Int), str c.text, .int .u64 (c.bits : Int), .int .u16 (c.a : Int), .int .u16 (c.b : Int)] 38) = h2 at *
  generalize h1.size = q2 at *
  have hx2 := E1.trans E2
  have q1 : cellAt h2 ⟨q, 1, none⟩ = some (.int .u8 (x.op : Int)) := by rw [cellAt_of q0]; rfl
  have hs2 := hs.ext (by decide) hx2
  generalize c.b = b at *
  simp only [T.tv, q4]
  refine eff_callF rfl ((is_any b 12 hcb hs2).mono ?_)
  rintro v3 h3 ⟨rfl, rfl⟩
  unfold calledP
  cases h12 : isS p b 12 with
  | false =>
    simp only [C.code_called_gos, T.tv, seval]
    exact ⟨hx2, rfl⟩
  | true =>
    obtain ⟨hb0, hbl⟩ := isS_lt h12
    have hbl' : (b : Int) < (p.length : Int) := by omega
    obtain ⟨bb, oo, cc, rfl, hrd, _⟩ := hs2.at hbl
    rw [flatS_at hbl] at hrd
    have hfx := hf (p.getD b Cst.zero) (by simp [hbl])
    generalize p.getD b Cst.zero = y at *
    have c3 : cellAt h3 ⟨bb, oo + b * 5 + 3, none⟩ = some (.int .u16 (y.a : Int)) := hrd 3 _ rfl
    have c4 : cellAt h3 ⟨bb, oo + b * 5 + 4, none⟩ = some (.int .u16 (y.b : Int)) := hrd 4 _ rfl
    simp (disch := omega) only [C.code_called_gos, T.tv, seval, q4, c3, c4]
    refine eff_callF rfl ((strS_any y.a hfx.a hs2).mono ?_)
    rintro v4 h4 ⟨rfl, rfl⟩
    simp (disch := omega) only [T.tv, q4, seval, c4]
    refine eff_callF rfl ((strS_any y.b hfx.b hs2).mono ?_)
    rintro v5 h5 ⟨rfl, rfl⟩
    have la := strS_len htx y.a
    have lb := strS_len htx y.b
    generalize strS p y.a = na at *
    generalize strS p y.b = nd at *
    simp only [C.code_called_gos, T.tv, seval]
    refine eff_callF rfl ((member_any na true la).mono ?_)
    rintro v6 h6 ⟨hx6, rfl⟩
    have q1' : cellAt h6 ⟨q, 1, none⟩ = some (.int .u8 (x.op : Int)) := by rw [cellAt_of (Fr_blk hx6 q0 _root_.id)]; rfl
    generalize memP na true = kd at *
    by_cases k3 : kd = 3
    · have k3' : (kd : Int) = 3 := by omega
      rw [show (true && (!(decide (kd = 3) || (decide (kd = 2) && decide (x.op ≠ 183))) && ((methP nd).isSome && (decide (x.op ≠ 185) || decide (((1 + slotsP (mT nd) : Nat) : Int) = x.B))))) = false by simp [k3]]
      simp only [C.code_called_gos, T.tv, seval, eq_true k3']
      exact hx2.trans hx6
    have k3' : ¬ (kd : Int) = 3 := by omega
    by_cases k2 : kd = 2 ∧ x.op ≠ 183
    · have k2' : (kd : Int) = 2 := by omega
      have o1 : ¬ (x.op : Int) = 183 := by omega
      rw [show (true && (!(decide (kd = 3) || (decide (kd = 2) && decide (x.op ≠ 183))) && ((methP nd).isSome && (decide (x.op ≠ 185) || decide (((1 + slotsP (mT nd) : Nat) : Int) = x.B))))) = false by simp [k2.1, k2.2]]
      simp only [C.code_called_gos, T.tv, seval, eq_false k3', eq_true k2', q1', eq_false o1]
      exact hx2.trans hx6
    rw [show (true && (!(decide (kd = 3) || (decide (kd = 2) && decide (x.op ≠ 183))) && ((methP nd).isSome && (decide (x.op ≠ 185) || decide (((1 + slotsP (mT nd) : Nat) : Int) = x.B))))) = ((methP nd).isSome && (decide (x.op ≠ 185) || decide (((1 + slotsP (mT nd) : Nat) : Int) = x.B))) by
      have : (decide (kd = 2) && decide (x.op ≠ 183)) = false := by
        rw [Bool.and_eq_false_iff, decide_eq_false_iff_not, decide_eq_false_iff_not]; omega
      rw [this, decide_eq_false k3]; rfl]
    by_cases k2 : kd = 2
    case pos =>
      have k2' : (kd : Int) = 2 := by omega
      have o1 : (x.op : Int) = 183 := by omega
      simp only [C.code_called_gos, T.tv, seval, eq_false k3', eq_true k2', q1', eq_true o1]
      refine eff_callF rfl ((method_any nd lb).mono ?_)
      rintro v7 h7 ⟨hx7, hm⟩
      obtain ⟨sv, rfl, hsv⟩ := MethV_parts hm
      have q7 := Fr_blk (hx6.trans hx7) q0 _root_.id
      have q1'' : cellAt h7 ⟨q, 1, none⟩ = some (.int .u8 (x.op : Int)) := by rw [cellAt_of q7]; rfl
      have hx := (hx2.trans hx6).trans hx7
      have hml := mT_len nd
      generalize mT nd = ts at *
      generalize (methP nd).isSome = ok at *
      by_cases o185 : x.op = 185
      case neg =>
        have o2 : ¬ (x.op : Int) = 185 := by omega
        rw [show (ok && (decide (x.op ≠ 185) || decide (((1 + slotsP ts : Nat) : Int) = x.B))) = ok by simp [o185]]
        simp only [C.code_called_gos, T.tv, seval, q1'', eq_false o2]
        exact hx
      have o2 : (x.op : Int) = 185 := by omega
      rw [show (ok && (decide (x.op ≠ 185) || decide (((1 + slotsP ts : Nat) : Int) = x.B))) = (ok && decide (((1 + slotsP ts : Nat) : Int) = x.B)) by simp [o185]]
      have hsv' := hsv
      obtain ⟨a9, c9, rfl, _⟩ := hsv'
      rw [List.length_map]
      simp only [C.code_called_gos, T.tv, seval, q1'', eq_true o2]
      refine loop_intro [3, 12, 13, 60, 61, 62] (fun m ρ hc => ∃ i : Nat, m = ts.length - i ∧ i ≤ ts.length ∧
        ρ = [(3, .pointer (some ⟨q, 0, none⟩)), (12, .bool ok), (13, .int .i64 ((1 + slotsP (ts.take i) : Nat) : Int)), (60, .slice a9 ts.length c9), (61, .int .i64 (ts.length : Int)), (62, .int .i64 (i : Int))] ∧ hc = h7) ?_ ?_
      case refine_1 =>
        simp only [T.tv, seval]
        exact ⟨_, 0, rfl, Nat.zero_le _, rfl⟩
      rintro m ρ hc ⟨i, rfl, hi, rfl, rfl⟩
      by_cases hlt : i < ts.length
      case pos =>
        have hlt' : (i : Int) < (ts.length : Int) := by omega
        obtain ⟨b1, o1, c1', heq1, _, hcell1⟩ := hsv.at (i := i) (by simpa using hlt)
        rw [List.length_map] at heq1
        cases heq1
        have e1 : cellAt hc ⟨b1, o1 + i, none⟩ = some (str (ts.getD i [])) := by rw [hcell1]; simp [hlt]
        have hst : ts.take (i + 1) = ts.take i ++ [ts.getD i []] := by rw [List.take_add_one]; simp [hlt]
        have hsl := slotsP_take (ts := ts) i
        generalize ts.getD i [] = t at *
        have hsp := slotP_le t
        have w1 : IntKind.i64.wrap ((i : Int) + 1) = ((i + 1 : Nat) : Int) := by rw [wrap_i64 (by omega) (by omega)]; omega
        have w2 : IntKind.i64.wrap (((1 + slotsP (ts.take i) : Nat) : Int) + (slotP t : Int)) = ((1 + slotsP (ts.take (i + 1)) : Nat) : Int) := by
          rw [hst, slotsP_snoc, wrap_i64 (by omega) (by omega)]; omega
        simp (disch := omega) only [C.code_called_gos, T.tv, seval, hlt', e1]
        refine eff_callF rfl ((slots_any t).mono ?_)
        rintro v9 h9 ⟨rfl, rfl⟩
        simp only [C.code_called_gos, T.tv, seval, w1, w2]
        exact ⟨ts.length - (i + 1), by omega, i + 1, rfl, by omega, rfl⟩
      have hlt' : ¬ (i : Int) < (ts.length : Int) := by omega
      rw [List.take_of_length_le (show ts.length ≤ i by omega)]
      have q4'' : cellAt hc ⟨q, 4, none⟩ = some (.int .i64 x.B) := by rw [cellAt_of q7]; rfl
      cases ok with
      | false =>
        simp only [C.code_called_gos, T.tv, seval, hlt']
        exact ⟨hx, rfl⟩
      | true =>
        simp only [C.code_called_gos, T.tv, seval, hlt', q4'']
        exact ⟨hx, rfl⟩
    have k2' : ¬ (kd : Int) = 2 := by omega
    simp only [C.code_called_gos, T.tv, seval, eq_false k3', eq_false k2']
    refine eff_callF rfl ((method_any nd lb).mono ?_)
    rintro v7 h7 ⟨hx7, hm⟩
    obtain ⟨sv, rfl, hsv⟩ := MethV_parts hm
    have q7 := Fr_blk (hx6.trans hx7) q0 _root_.id
    have q1'' : cellAt h7 ⟨q, 1, none⟩ = some (.int .u8 (x.op : Int)) := by rw [cellAt_of q7]; rfl
    have hx := (hx2.trans hx6).trans hx7
    have hml := mT_len nd
    generalize mT nd = ts at *
    generalize (methP nd).isSome = ok at *
    by_cases o185 : x.op = 185
    case neg =>
      have o2 : ¬ (x.op : Int) = 185 := by omega
      rw [show (ok && (decide (x.op ≠ 185) || decide (((1 + slotsP ts : Nat) : Int) = x.B))) = ok by simp [o185]]
      simp only [C.code_called_gos, T.tv, seval, q1'', eq_false o2]
      exact hx
    have o2 : (x.op : Int) = 185 := by omega
    rw [show (ok && (decide (x.op ≠ 185) || decide (((1 + slotsP ts : Nat) : Int) = x.B))) = (ok && decide (((1 + slotsP ts : Nat) : Int) = x.B)) by simp [o185]]
    have hsv' := hsv
    obtain ⟨a9, c9, rfl, _⟩ := hsv'
    rw [List.length_map]
    simp only [C.code_called_gos, T.tv, seval, q1'', eq_true o2]
    refine loop_intro [3, 12, 13, 60, 61, 62] (fun m ρ hc => ∃ i : Nat, m = ts.length - i ∧ i ≤ ts.length ∧
      ρ = [(3, .pointer (some ⟨q, 0, none⟩)), (12, .bool ok), (13, .int .i64 ((1 + slotsP (ts.take i) : Nat) : Int)), (60, .slice a9 ts.length c9), (61, .int .i64 (ts.length : Int)), (62, .int .i64 (i : Int))] ∧ hc = h7) ?_ ?_
    case refine_1 =>
      simp only [T.tv, seval]
      exact ⟨_, 0, rfl, Nat.zero_le _, rfl⟩
    rintro m ρ hc ⟨i, rfl, hi, rfl, rfl⟩
    by_cases hlt : i < ts.length
    case pos =>
      have hlt' : (i : Int) < (ts.length : Int) := by omega
      obtain ⟨b1, o1, c1', heq1, _, hcell1⟩ := hsv.at (i := i) (by simpa using hlt)
      rw [List.length_map] at heq1
      cases heq1
      have e1 : cellAt hc ⟨b1, o1 + i, none⟩ = some (str (ts.getD i [])) := by rw [hcell1]; simp [hlt]
      have hst : ts.take (i + 1) = ts.take i ++ [ts.getD i []] := by rw [List.take_add_one]; simp [hlt]
      have hsl := slotsP_take (ts := ts) i
      generalize ts.getD i [] = t at *
      have hsp := slotP_le t
      have w1 : IntKind.i64.wrap ((i : Int) + 1) = ((i + 1 : Nat) : Int) := by rw [wrap_i64 (by omega) (by omega)]; omega
      have w2 : IntKind.i64.wrap (((1 + slotsP (ts.take i) : Nat) : Int) + (slotP t : Int)) = ((1 + slotsP (ts.take (i + 1)) : Nat) : Int) := by
        rw [hst, slotsP_snoc, wrap_i64 (by omega) (by omega)]; omega
      simp (disch := omega) only [C.code_called_gos, T.tv, seval, hlt', e1]
      refine eff_callF rfl ((slots_any t).mono ?_)
      rintro v9 h9 ⟨rfl, rfl⟩
      simp only [C.code_called_gos, T.tv, seval, w1, w2]
      exact ⟨ts.length - (i + 1), by omega, i + 1, rfl, by omega, rfl⟩
    have hlt' : ¬ (i : Int) < (ts.length : Int) := by omega
    rw [List.take_of_length_le (show ts.length ≤ i by omega)]
    have q4'' : cellAt hc ⟨q, 4, none⟩ = some (.int .i64 x.B) := by rw [cellAt_of q7]; rfl
    cases ok with
    | false =>
      simp only [C.code_called_gos, T.tv, seval, hlt']
      exact ⟨hx, rfl⟩
    | true =>
      simp only [C.code_called_gos, T.tv, seval, hlt', q4'']
      exact ⟨hx, rfl⟩
end
end Go.Proofs.YtflocjbhcjhenaaGreatDoor
namespace Go.Proofs.YtflocjbhcjhenaaGreatDoor
open Go.Vc
set_option maxRecDepth 100000
section
variable {x : In} {ak bk : Option Addr} {nk ck nb cb : Nat} {p : List Cst} {vp : Value}
theorem isI_k {p : List Cst} (hp : p.length ≤ 65536) {A : Int} {t : Nat} (h : isI p A t = true) : u16n A = A.toNat ∧ 0 < A.toNat ∧ A.toNat < p.length := by
  have h' := h
  rw [isI_eq hp, Bool.and_eq_true, decide_eq_true_eq] at h'
  have := isS_lt h'.2
  omega
set_option maxHeartbeats 16000000 in
theorem operand_any {h : Heap} (hop : x.op < 256) (hp : p.length ≤ 65536) (hf : ∀ c ∈ p, c.Fit) (htx : ∀ c ∈ p, c.text.length ≤ 4294967296) (hs : SlN h 5 vp p.length (flatS p)) :
    HCalls Tryz.prog 76 #[aggX x ak bk nk ck nb cb, vp] h fun v h' => Ext h h' ∧ v = .bool (operP x.op x.A x.B p) := by
  have hs' := hs
  obtain ⟨_, a, c, rfl, _⟩ := hs'
  refine C.code_operand_calls (args := [aggX x ak bk nk ck nb cb, .slice a p.length c]) rfl ?_
  simp only [C.code_operand_gos, T.tv]
  refine eff_box ?_
  have q0 : (h.push (rowX x ak bk nk ck nb cb))[h.size]? = some (rowX x ak bk nk ck nb cb) := by simp
  have E1 := Ext.push h (rowX x ak bk nk ck nb cb)
  simp only [T.tv, seval]
  generalize h.push (rowX x ak bk nk ck nb cb) = h1 at *
  generalize h.size = gx at *
  refine eff_box ?_
  have q2 : (h1.push (.cells #[.slice a p.length c] 23))[h1.size]? = some (.cells #[.slice a p.length c] 23 (0, 0)) := by simp
  have E2 := Ext.push h1 (.cells #[.slice a p.length c] 23)
  have q1 := Fr_blk E2 q0 _root_.id
  simp only [C.code_operand_gos, T.tv, seval]
  generalize h1.push (.cells #[.slice a p.length c] 23) = h2 at *
  generalize h1.size = gp at *
  have x3 : cellAt h2 ⟨gx, 3, none⟩ = some (.int .i64 x.A) := by rw [cellAt_of q1]; rfl
  simp only [T.tv, x3, seval, u16n_wrap]
  refine eff_alloc_z T.zr_22 ?_
  simp only [T.tv, seval]
  refine eff_store_new_z T.zr_22 rfl rfl rfl (by simp [Value.cells, oneCell]) rfl ?_
  intro h3 e3 _ _ b3
  have hx3 := (E1.trans E2).trans e3
  have qx := Fr_blk e3 q1 _root_.id
  have qp := Fr_blk e3 q2 _root_.id
  have qk : h3[h2.size]? = some (.cells #[.int .u16 ((u16n x.A : Nat) : Int)] 22 (0, 0)) := b3
  clear q0 q1 q2 b3 x3 e3 E1 E2
  generalize h2.size = gk at *
  have x1 : cellAt h3 ⟨gx, 1, none⟩ = some (.int .u8 (x.op : Int)) := by rw [cellAt_of qx]; rfl
  simp only [C.code_operand_gos, T.tv, seval, x1]
  have key : ∀ h4, Ext h3 h4 → cellAt h4 ⟨gk, 0, none⟩ = some (.int .u16 ((u16n x.A : Nat) : Int)) ∧ cellAt h4 ⟨gx, 3, none⟩ = some (.int .i64 x.A) ∧ cellAt h4 ⟨gx, 4, none⟩ = some (.int .i64 x.B) ∧ cellAt h4 ⟨gp, 0, none⟩ = some (.slice a p.length c) ∧ SlN h4 5 (.slice a p.length c) p.length (flatS p) ∧ h4[gx]? = some (rowX x ak bk nk ck nb cb) := by
    intro h4 e
    have q1 := Fr_blk e qx _root_.id
    have q2 := Fr_blk e qp _root_.id
    have q3 := Fr_blk e qk _root_.id
    refine ⟨?_, ?_, ?_, ?_, hs.ext (by decide) (hx3.trans e), q1⟩
    · rw [cellAt_of q3]; rfl
    · rw [cellAt_of q1]; rfl
    · rw [cellAt_of q1]; rfl
    · rw [cellAt_of q2]; rfl
  clear qx qp qk
  by_cases g0 : x.op = 18 ∨ x.op = 19
  case pos =>
    rw [show operP x.op x.A x.B p = ([3, 4, 8].any (isI p x.A)) by unfold operP; rw [if_pos (by omega)]]
    rcases g0 with e | e
    all_goals
      simp (disch := omega) only [C.code_operand_gos, T.tv, seval, va]
      refine eff_lits T.slT_136 rfl rfl (by decide) ?_
      simp only [T.tv]
      have e4 := Ext.push h3 (.cells #[.int .u8 3, .int .u8 4, .int .u8 8] 5)
      have hts : Sl (h3.push (.cells #[.int .u8 3, .int .u8 4, .int .u8 8] 5)) (.slice (some ⟨h3.size, 0, none⟩) 3 3) (([3, 4, 8] : List Nat).map fun t : Nat => .int .u8 (t : Int)) := ⟨_, _, rfl, .inr ⟨_, _, rfl, Rd_new (vs := [.int .u8 3, .int .u8 4, .int .u8 8])⟩⟩
      generalize h3.push (.cells #[.int .u8 3, .int .u8 4, .int .u8 8] 5) = h4 at *
      generalize h3.size = gt at *
      obtain ⟨c1, c2, c5, c3, hs4, qx⟩ := key h4 e4
      refine eff_call_of  ?_
      simp only [T.tv, seval]
      refine (cis_any [3, 4, 8] (by decide) hts c1 c2 c3 hp hs4).mono ?_
      rintro v5 h5 ⟨rfl, rfl⟩
      simp only [T.tv, seval]
      first | exact hx3.trans e4 | exact ⟨hx3.trans e4, rfl⟩
  by_cases g1 : x.op = 20
  case pos =>
    rw [show operP x.op x.A x.B p = ([5, 6].any (isI p x.A)) by unfold operP; rw [if_neg (by omega), if_pos (by omega)]]
    simp (disch := omega) only [C.code_operand_gos, T.tv, seval, va]
    refine eff_lits T.slT_136 rfl rfl (by decide) ?_
    simp only [T.tv]
    have e4 := Ext.push h3 (.cells #[.int .u8 5, .int .u8 6] 5)
    have hts : Sl (h3.push (.cells #[.int .u8 5, .int .u8 6] 5)) (.slice (some ⟨h3.size, 0, none⟩) 2 2) (([5, 6] : List Nat).map fun t : Nat => .int .u8 (t : Int)) := ⟨_, _, rfl, .inr ⟨_, _, rfl, Rd_new (vs := [.int .u8 5, .int .u8 6])⟩⟩
    generalize h3.push (.cells #[.int .u8 5, .int .u8 6] 5) = h4 at *
    generalize h3.size = gt at *
    obtain ⟨c1, c2, c5, c3, hs4, qx⟩ := key h4 e4
    refine eff_call_of  ?_
    simp only [T.tv, seval]
    refine (cis_any [5, 6] (by decide) hts c1 c2 c3 hp hs4).mono ?_
    rintro v5 h5 ⟨rfl, rfl⟩
    simp only [T.tv, seval]
    first | exact hx3.trans e4 | exact ⟨hx3.trans e4, rfl⟩
  by_cases g2 : x.op = 178 ∨ x.op = 179 ∨ x.op = 180 ∨ x.op = 181
  case pos =>
    rw [show operP x.op x.A x.B p = ([9].any (isI p x.A)) by unfold operP; rw [if_neg (by omega), if_neg (by omega), if_pos (by omega)]]
    rcases g2 with e | e | e | e
    all_goals
      simp (disch := omega) only [C.code_operand_gos, T.tv, seval, va]
      refine eff_lits T.slT_136 rfl rfl (by decide) ?_
      simp only [T.tv]
      have e4 := Ext.push h3 (.cells #[.int .u8 9] 5)
      have hts : Sl (h3.push (.cells #[.int .u8 9] 5)) (.slice (some ⟨h3.size, 0, none⟩) 1 1) (([9] : List Nat).map fun t : Nat => .int .u8 (t : Int)) := ⟨_, _, rfl, .inr ⟨_, _, rfl, Rd_new (vs := [.int .u8 9])⟩⟩
      generalize h3.push (.cells #[.int .u8 9] 5) = h4 at *
      generalize h3.size = gt at *
      obtain ⟨c1, c2, c5, c3, hs4, qx⟩ := key h4 e4
      refine eff_call_of  ?_
      simp only [T.tv, seval]
      refine (cis_any [9] (by decide) hts c1 c2 c3 hp hs4).mono ?_
      rintro v5 h5 ⟨rfl, rfl⟩
      simp only [T.tv, seval]
      first | exact hx3.trans e4 | exact ⟨hx3.trans e4, rfl⟩
  by_cases g3 : x.op = 182 ∨ x.op = 183 ∨ x.op = 184
  case pos =>
    rw [show operP x.op x.A x.B p = ([10].any (isI p x.A) && calledP x.op x.B p (p.getD x.A.toNat Cst.zero).b) by unfold operP; rw [if_neg (by omega), if_neg (by omega), if_neg (by omega), if_pos (by omega)]]
    rcases g3 with e | e | e
    all_goals
      simp (disch := omega) only [C.code_operand_gos, T.tv, seval, va]
      refine eff_lits T.slT_136 rfl rfl (by decide) ?_
      simp only [T.tv]
      have e4 := Ext.push h3 (.cells #[.int .u8 10] 5)
      have hts : Sl (h3.push (.cells #[.int .u8 10] 5)) (.slice (some ⟨h3.size, 0, none⟩) 1 1) (([10] : List Nat).map fun t : Nat => .int .u8 (t : Int)) := ⟨_, _, rfl, .inr ⟨_, _, rfl, Rd_new (vs := [.int .u8 10])⟩⟩
      generalize h3.push (.cells #[.int .u8 10] 5) = h4 at *
      generalize h3.size = gt at *
      obtain ⟨c1, c2, c5, c3, hs4, qx⟩ := key h4 e4
      refine eff_call_of  ?_
      simp only [T.tv, seval]
      refine (cis_any [10] (by decide) hts c1 c2 c3 hp hs4).mono ?_
      rintro v5 h5 ⟨rfl, rfl⟩
      cases hb : ([10] : List Nat).any (isI p x.A) with
      | false =>
        simp only [T.tv, seval]
        first | exact hx3.trans e4 | exact ⟨hx3.trans e4, rfl⟩
      | true =>
        obtain ⟨kk, k0, kl⟩ := isI_k hp (t := 10) (by simpa using hb)
        rw [kk] at c1
        have kl' : ((x.A.toNat : Nat) : Int) < (p.length : Int) := by omega
        obtain ⟨b, o, c', heq, hrd, _⟩ := hs4.at kl
        cases heq
        rw [flatS_at kl] at hrd
        have hy := hf (p.getD x.A.toNat Cst.zero) (by simp [kl])
        generalize p.getD x.A.toNat Cst.zero = y at *
        have hld := ld_agg T.ag_38 hrd rfl
        simp only [Cst.cells] at hld
        have hldx := ld_agg T.ag_98 (Rd_block (vs := [.int .i64 x.at', .int .u8 (x.op : Int), .bool x.wide, .int .i64 x.A, .int .i64 x.B, .int .i64 x.low, .slice ak nk ck, .slice bk nb cb]) qx) rfl
        simp (disch := omega) only [T.tv, c1, seval, c3, hld, hldx]
        refine eff_callF rfl ((called_any (ak := ak) (bk := bk) (nk := nk) (ck := ck) (nb := nb) (cb := cb) (x := x) y hy.b hf htx hs4).mono ?_)
        rintro v6 h6 ⟨hx6, rfl⟩
        simp only [T.tv, seval]
        first | exact (hx3.trans e4).trans hx6 | exact ⟨(hx3.trans e4).trans hx6, rfl⟩
  by_cases g4 : x.op = 185
  case pos =>
    rw [show operP x.op x.A x.B p = ([11].any (isI p x.A) && calledP x.op x.B p (p.getD x.A.toNat Cst.zero).b) by unfold operP; rw [if_neg (by omega), if_neg (by omega), if_neg (by omega), if_neg (by omega), if_pos (by omega)]]
    simp (disch := omega) only [C.code_operand_gos, T.tv, seval, va]
    refine eff_lits T.slT_136 rfl rfl (by decide) ?_
    simp only [T.tv]
    have e4 := Ext.push h3 (.cells #[.int .u8 11] 5)
    have hts : Sl (h3.push (.cells #[.int .u8 11] 5)) (.slice (some ⟨h3.size, 0, none⟩) 1 1) (([11] : List Nat).map fun t : Nat => .int .u8 (t : Int)) := ⟨_, _, rfl, .inr ⟨_, _, rfl, Rd_new (vs := [.int .u8 11])⟩⟩
    generalize h3.push (.cells #[.int .u8 11] 5) = h4 at *
    generalize h3.size = gt at *
    obtain ⟨c1, c2, c5, c3, hs4, qx⟩ := key h4 e4
    refine eff_call_of  ?_
    simp only [T.tv, seval]
    refine (cis_any [11] (by decide) hts c1 c2 c3 hp hs4).mono ?_
    rintro v5 h5 ⟨rfl, rfl⟩
    cases hb : ([11] : List Nat).any (isI p x.A) with
    | false =>
      simp only [T.tv, seval]
      first | exact hx3.trans e4 | exact ⟨hx3.trans e4, rfl⟩
    | true =>
      obtain ⟨kk, k0, kl⟩ := isI_k hp (t := 11) (by simpa using hb)
      rw [kk] at c1
      have kl' : ((x.A.toNat : Nat) : Int) < (p.length : Int) := by omega
      obtain ⟨b, o, c', heq, hrd, _⟩ := hs4.at kl
      cases heq
      rw [flatS_at kl] at hrd
      have hy := hf (p.getD x.A.toNat Cst.zero) (by simp [kl])
      generalize p.getD x.A.toNat Cst.zero = y at *
      have hld := ld_agg T.ag_38 hrd rfl
      simp only [Cst.cells] at hld
      have hldx := ld_agg T.ag_98 (Rd_block (vs := [.int .i64 x.at', .int .u8 (x.op : Int), .bool x.wide, .int .i64 x.A, .int .i64 x.B, .int .i64 x.low, .slice ak nk ck, .slice bk nb cb]) qx) rfl
      simp (disch := omega) only [T.tv, c1, seval, c3, hld, hldx]
      refine eff_callF rfl ((called_any (ak := ak) (bk := bk) (nk := nk) (ck := ck) (nb := nb) (cb := cb) (x := x) y hy.b hf htx hs4).mono ?_)
      rintro v6 h6 ⟨hx6, rfl⟩
      simp only [T.tv, seval]
      first | exact (hx3.trans e4).trans hx6 | exact ⟨(hx3.trans e4).trans hx6, rfl⟩
  by_cases g5 : x.op = 187
  case pos =>
    rw [show operP x.op x.A x.B p = ([7].any (isI p x.A) && decide (nbr (nameI p x.A) = 0)) by unfold operP; rw [if_neg (by omega), if_neg (by omega), if_neg (by omega), if_neg (by omega), if_neg (by omega), if_pos (by omega)]]
    simp (disch := omega) only [C.code_operand_gos, T.tv, seval, va]
    refine eff_lits T.slT_136 rfl rfl (by decide) ?_
    simp only [T.tv]
    have e4 := Ext.push h3 (.cells #[.int .u8 7] 5)
    have hts : Sl (h3.push (.cells #[.int .u8 7] 5)) (.slice (some ⟨h3.size, 0, none⟩) 1 1) (([7] : List Nat).map fun t : Nat => .int .u8 (t : Int)) := ⟨_, _, rfl, .inr ⟨_, _, rfl, Rd_new (vs := [.int .u8 7])⟩⟩
    generalize h3.push (.cells #[.int .u8 7] 5) = h4 at *
    generalize h3.size = gt at *
    obtain ⟨c1, c2, c5, c3, hs4, qx⟩ := key h4 e4
    refine eff_call_of  ?_
    simp only [T.tv, seval]
    refine (cis_any [7] (by decide) hts c1 c2 c3 hp hs4).mono ?_
    rintro v5 h5 ⟨rfl, rfl⟩
    cases hb : ([7] : List Nat).any (isI p x.A) with
    | false =>
      simp only [T.tv, seval]
      first | exact hx3.trans e4 | exact ⟨hx3.trans e4, rfl⟩
    | true =>
      obtain ⟨kk, k0, kl⟩ := isI_k hp (t := 7) (by simpa using hb)
      rw [kk] at c1
      simp only [T.tv, seval]
      refine eff_call_of  ?_
      simp only [T.tv, seval]
      refine (cclass_any kl (by omega) hf c1 c3 hs4).mono ?_
      rintro v6 h6 ⟨rfl, rfl⟩
      have hln := strS_len htx (p.getD x.A.toNat Cst.zero).a
      simp only [T.tv, seval]
      refine eff_callF rfl ((dims_any (strS p (p.getD x.A.toNat Cst.zero).a) hln).mono ?_)
      rintro v7 h7 ⟨rfl, rfl⟩
      have hd : decide (((nbr (strS p (p.getD x.A.toNat Cst.zero).a) : Nat) : Int) = 0) = decide (nbr (nameI p x.A) = 0) := decide_eq_decide.2 (by unfold nameI; omega)
      rw [Bool.true_and, ← hd]
      simp only [T.tv, seval]
      first | exact hx3.trans e4 | exact ⟨hx3.trans e4, rfl⟩
  by_cases g6 : x.op = 189
  case pos =>
    rw [show operP x.op x.A x.B p = ([7].any (isI p x.A) && decide (nbr (nameI p x.A) < 255)) by unfold operP; rw [if_neg (by omega), if_neg (by omega), if_neg (by omega), if_neg (by omega), if_neg (by omega), if_neg (by omega), if_pos (by omega)]]
    simp (disch := omega) only [C.code_operand_gos, T.tv, seval, va]
    refine eff_lits T.slT_136 rfl rfl (by decide) ?_
    simp only [T.tv]
    have e4 := Ext.push h3 (.cells #[.int .u8 7] 5)
    have hts : Sl (h3.push (.cells #[.int .u8 7] 5)) (.slice (some ⟨h3.size, 0, none⟩) 1 1) (([7] : List Nat).map fun t : Nat => .int .u8 (t : Int)) := ⟨_, _, rfl, .inr ⟨_, _, rfl, Rd_new (vs := [.int .u8 7])⟩⟩
    generalize h3.push (.cells #[.int .u8 7] 5) = h4 at *
    generalize h3.size = gt at *
    obtain ⟨c1, c2, c5, c3, hs4, qx⟩ := key h4 e4
    refine eff_call_of  ?_
    simp only [T.tv, seval]
    refine (cis_any [7] (by decide) hts c1 c2 c3 hp hs4).mono ?_
    rintro v5 h5 ⟨rfl, rfl⟩
    cases hb : ([7] : List Nat).any (isI p x.A) with
    | false =>
      simp only [T.tv, seval]
      first | exact hx3.trans e4 | exact ⟨hx3.trans e4, rfl⟩
    | true =>
      obtain ⟨kk, k0, kl⟩ := isI_k hp (t := 7) (by simpa using hb)
      rw [kk] at c1
      simp only [T.tv, seval]
      refine eff_call_of  ?_
      simp only [T.tv, seval]
      refine (cclass_any kl (by omega) hf c1 c3 hs4).mono ?_
      rintro v6 h6 ⟨rfl, rfl⟩
      have hln := strS_len htx (p.getD x.A.toNat Cst.zero).a
      simp only [T.tv, seval]
      refine eff_callF rfl ((dims_any (strS p (p.getD x.A.toNat Cst.zero).a) hln).mono ?_)
      rintro v7 h7 ⟨rfl, rfl⟩
      have hd : decide (((nbr (strS p (p.getD x.A.toNat Cst.zero).a) : Nat) : Int) < 255) = decide (nbr (nameI p x.A) < 255) := decide_eq_decide.2 (by unfold nameI; omega)
      rw [Bool.true_and, ← hd]
      simp only [T.tv, seval]
      first | exact hx3.trans e4 | exact ⟨hx3.trans e4, rfl⟩
  by_cases g7 : x.op = 192 ∨ x.op = 193
  case pos =>
    rw [show operP x.op x.A x.B p = ([7].any (isI p x.A)) by unfold operP; rw [if_neg (by omega), if_neg (by omega), if_neg (by omega), if_neg (by omega), if_neg (by omega), if_neg (by omega), if_neg (by omega), if_pos (by omega)]]
    rcases g7 with e | e
    all_goals
      simp (disch := omega) only [C.code_operand_gos, T.tv, seval, va]
      refine eff_lits T.slT_136 rfl rfl (by decide) ?_
      simp only [T.tv]
      have e4 := Ext.push h3 (.cells #[.int .u8 7] 5)
      have hts : Sl (h3.push (.cells #[.int .u8 7] 5)) (.slice (some ⟨h3.size, 0, none⟩) 1 1) (([7] : List Nat).map fun t : Nat => .int .u8 (t : Int)) := ⟨_, _, rfl, .inr ⟨_, _, rfl, Rd_new (vs := [.int .u8 7])⟩⟩
      generalize h3.push (.cells #[.int .u8 7] 5) = h4 at *
      generalize h3.size = gt at *
      obtain ⟨c1, c2, c5, c3, hs4, qx⟩ := key h4 e4
      refine eff_call_of  ?_
      simp only [T.tv, seval]
      refine (cis_any [7] (by decide) hts c1 c2 c3 hp hs4).mono ?_
      rintro v5 h5 ⟨rfl, rfl⟩
      simp only [T.tv, seval]
      first | exact hx3.trans e4 | exact ⟨hx3.trans e4, rfl⟩
  by_cases g8 : x.op = 197
  case pos =>
    rw [show operP x.op x.A x.B p = ([7].any (isI p x.A) && decide (x.B ≤ (nbr (nameI p x.A) : Int))) by unfold operP; rw [if_neg (by omega), if_neg (by omega), if_neg (by omega), if_neg (by omega), if_neg (by omega), if_neg (by omega), if_neg (by omega), if_neg (by omega), if_pos (by omega)]]
    simp (disch := omega) only [C.code_operand_gos, T.tv, seval, va]
    refine eff_lits T.slT_136 rfl rfl (by decide) ?_
    simp only [T.tv]
    have e4 := Ext.push h3 (.cells #[.int .u8 7] 5)
    have hts : Sl (h3.push (.cells #[.int .u8 7] 5)) (.slice (some ⟨h3.size, 0, none⟩) 1 1) (([7] : List Nat).map fun t : Nat => .int .u8 (t : Int)) := ⟨_, _, rfl, .inr ⟨_, _, rfl, Rd_new (vs := [.int .u8 7])⟩⟩
    generalize h3.push (.cells #[.int .u8 7] 5) = h4 at *
    generalize h3.size = gt at *
    obtain ⟨c1, c2, c5, c3, hs4, qx⟩ := key h4 e4
    refine eff_call_of  ?_
    simp only [T.tv, seval]
    refine (cis_any [7] (by decide) hts c1 c2 c3 hp hs4).mono ?_
    rintro v5 h5 ⟨rfl, rfl⟩
    cases hb : ([7] : List Nat).any (isI p x.A) with
    | false =>
      simp only [T.tv, seval]
      first | exact hx3.trans e4 | exact ⟨hx3.trans e4, rfl⟩
    | true =>
      obtain ⟨kk, k0, kl⟩ := isI_k hp (t := 7) (by simpa using hb)
      rw [kk] at c1
      simp only [T.tv, c5, seval]
      refine eff_call_of  ?_
      simp only [T.tv, seval]
      refine (cclass_any kl (by omega) hf c1 c3 hs4).mono ?_
      rintro v6 h6 ⟨rfl, rfl⟩
      have hln := strS_len htx (p.getD x.A.toNat Cst.zero).a
      simp only [T.tv, c5, seval]
      refine eff_callF rfl ((dims_any (strS p (p.getD x.A.toNat Cst.zero).a) hln).mono ?_)
      rintro v7 h7 ⟨rfl, rfl⟩
      have hd : decide (x.B ≤ ((nbr (strS p (p.getD x.A.toNat Cst.zero).a) : Nat) : Int)) = decide (x.B ≤ (nbr (nameI p x.A) : Int)) := decide_eq_decide.2 (by unfold nameI; omega)
      rw [Bool.true_and, ← hd]
      simp only [T.tv, c5, seval]
      first | exact hx3.trans e4 | exact ⟨hx3.trans e4, rfl⟩
  rw [show operP x.op x.A x.B p = true by unfold operP; rw [if_neg (by omega), if_neg (by omega), if_neg (by omega), if_neg (by omega), if_neg (by omega), if_neg (by omega), if_neg (by omega), if_neg (by omega), if_neg (by omega)]]
  simp (disch := omega) only [C.code_operand_gos, T.tv, seval, va]
  exact hx3
end
end Go.Proofs.YtflocjbhcjhenaaGreatDoor
namespace Go.Proofs.YtflocjbhcjhenaaGreatDoor
open Go.Vc
set_option maxRecDepth 100000
section
variable {x : In} {ak bk : Option Addr} {nk ck nb cb : Nat} {p : List Cst} {vp : Value}
theorem memP_3 (s : List UInt8) : memP s true = 3 ↔ s = [60, 99, 108, 105, 110, 105, 116, 62] := by
  unfold memP
  by_cases h1 : s = [60, 105, 110, 105, 116, 62]
  · subst h1; decide
  by_cases h2 : s = [60, 99, 108, 105, 110, 105, 116, 62]
  · subst h2; decide
  rw [if_neg (by simp [h1]), if_neg (by simp [h2])]
  constructor
  · intro h; split at h <;> cases h
  · intro h; exact absurd h h2
theorem memP_2 (s : List UInt8) : memP s true = 2 ↔ s = [60, 105, 110, 105, 116, 62] := by
  unfold memP
  by_cases h1 : s = [60, 105, 110, 105, 116, 62]
  · subst h1; decide
  by_cases h2 : s = [60, 99, 108, 105, 110, 105, 116, 62]
  · subst h2; decide
  rw [if_neg (by simp [h1]), if_neg (by simp [h2])]
  constructor
  · intro h; split at h <;> cases h
  · intro h; exact absurd h h1
theorem rstrS_any {h : Heap} (k : Nat) (hs : SlN h 5 vp p.length (flatS p)) :
    HCalls Tryz.prog 57 #[vp, .int .i64 k] h fun v h' => h' = h ∧ v = .tuple #[str (strS p k), .bool (isS p k 1)] := rstring_any k hs
set_option maxHeartbeats 2000000 in
theorem rcalled_any {h : Heap} (hA0 : 0 ≤ x.A) (hAl : x.A.toNat < p.length) (hf : ∀ c ∈ p, c.Fit) (htx : ∀ c ∈ p, c.text.length ≤ 4294967296) (hs : SlN h 5 vp p.length (flatS p)) :
    HCalls Tryz.prog 102 #[aggX x ak bk nk ck nb cb, vp] h fun v h' => Ext h h' ∧ v = .bool (calledP x.op x.B p (p.getD x.A.toNat Cst.zero).b) := by
  have hs' := hs
  obtain ⟨_, a, c, rfl, _⟩ := hs'
  refine C.ref2_called_calls (args := [aggX x ak bk nk ck nb cb, .slice a p.length c]) rfl ?_
  simp only [C.ref2_called_gos, T.tv]
  refine eff_box ?_
  have q0 : (h.push (rowX x ak bk nk ck nb cb))[h.size]? = some (rowX x ak bk nk ck nb cb) := by simp
  have E1 := Ext.push h (rowX x ak bk nk ck nb cb)
  simp only [C.ref2_called_gos, T.tv, seval]
  generalize h.push (rowX x ak bk nk ck nb cb) = h1 at *
  generalize h.size = q at *
  have hs1 := hs.ext (by decide) E1
  have q1 : cellAt h1 ⟨q, 1, none⟩ = some (.int .u8 (x.op : Int)) := by rw [cellAt_of q0]; rfl
  have q3 : cellAt h1 ⟨q, 3, none⟩ = some (.int .i64 x.A) := by rw [cellAt_of q0]; rfl
  obtain ⟨b0, o0, c0', heq0, hrd0, _⟩ := hs1.at hAl
  cases heq0
  rw [flatS_at hAl] at hrd0
  have hfa := hf (p.getD x.A.toNat Cst.zero) (by simp [hAl])
  generalize p.getD x.A.toNat Cst.zero = z at *
  obtain ⟨b, hb⟩ : ∃ b, b = z.b := ⟨_, rfl⟩
  have r4 : cellAt h1 ⟨b0, o0 + x.A.toNat * 5 + 4, none⟩ = some (.int .u16 (b : Int)) := by rw [hb]; exact hrd0 4 _ rfl
  have hb6 : b < 65536 := by rw [hb]; exact hfa.b
  rw [← hb]
  have l1 : x.A < (p.length : Int) := by omega
  have w1 : IntKind.i64.wrap (b : Int) = (b : Int) := wrap_i64 (by omega) (by omega)
  simp (disch := omega) only [C.ref2_called_gos, T.tv, seval, q3, r4, w1]
  refine eff_callF rfl ((ris_any b 12 hs1).mono ?_)
  rintro v3 h3 ⟨rfl, rfl⟩
  unfold calledP
  cases h12 : isS p b 12 with
  | false =>
    simp only [C.ref2_called_gos, T.tv, seval]
    exact ⟨E1, rfl⟩
  | true =>
    obtain ⟨_, hbl⟩ := isS_lt h12
    have hbl' : (b : Int) < (p.length : Int) := by omega
    have hb0' : (0 : Int) ≤ (b : Int) := by omega
    obtain ⟨bb, oo, cc, heq1, hrd, _⟩ := hs1.at hbl
    cases heq1
    rw [flatS_at hbl] at hrd
    have hfx := hf (p.getD b Cst.zero) (by simp [hbl])
    generalize p.getD b Cst.zero = y at *
    have c3 : cellAt h3 ⟨b0, o0 + b * 5 + 3, none⟩ = some (.int .u16 (y.a : Int)) := hrd 3 _ rfl
    have c4 : cellAt h3 ⟨b0, o0 + b * 5 + 4, none⟩ = some (.int .u16 (y.b : Int)) := hrd 4 _ rfl
    have w3 : IntKind.i64.wrap (y.a : Int) = (y.a : Int) := by have := hfx.a; exact wrap_i64 (by omega) (by omega)
    have w4 : IntKind.i64.wrap (y.b : Int) = (y.b : Int) := by have := hfx.b; exact wrap_i64 (by omega) (by omega)
    simp (disch := omega) only [C.ref2_called_gos, T.tv, seval, c3, w3]
    refine eff_callF rfl ((rstrS_any y.a hs1).mono ?_)
    rintro v4 h4 ⟨rfl, rfl⟩
    simp (disch := omega) only [C.ref2_called_gos, T.tv, seval, c4, w4]
    refine eff_callF rfl ((rstrS_any y.b hs1).mono ?_)
    rintro v5 h5 ⟨rfl, rfl⟩
    have lb := strS_len htx y.b
    generalize isS p y.a 1 = i1 at *
    generalize isS p y.b 1 = i2 at *
    generalize strS p y.a = na at *
    generalize strS p y.b = nd at *
    simp only [C.ref2_called_gos, T.tv, seval]
    refine eff_callF rfl ((rmethod_any nd lb).mono ?_)
    rintro v7 h7 ⟨hx7, hm⟩
    obtain ⟨sv, rfl, hsv⟩ := MethV_parts hm
    have q7 := Fr_blk hx7 q0 _root_.id
    have q1'' : cellAt h7 ⟨q, 1, none⟩ = some (.int .u8 (x.op : Int)) := by rw [cellAt_of q7]; rfl
    have q4'' : cellAt h7 ⟨q, 4, none⟩ = some (.int .i64 x.B) := by rw [cellAt_of q7]; rfl
    have hx := E1.trans hx7
    have hml := mT_len nd
    generalize mT nd = ts at *
    generalize (methP nd).isSome = ok at *
    have hsv' := hsv
    obtain ⟨a9, c9, rfl, _⟩ := hsv'
    rw [List.length_map]
    simp only [C.ref2_called_gos, T.tv, seval]
    refine loop_intro [2, 6, 12, 13, 55, 56, 57] (fun m ρ hc => ∃ i : Nat, m = ts.length - i ∧ i ≤ ts.length ∧
      ρ = [(2, .pointer (some ⟨q, 0, none⟩)), (6, str na), (12, .bool ok), (13, .int .i64 ((1 + slotsP (ts.take i) : Nat) : Int)), (55, .slice a9 ts.length c9), (56, .int .i64 (ts.length : Int)), (57, .int .i64 (i : Int))] ∧ hc = h7) ?_ ?_
    · simp only [T.tv, seval]
      exact ⟨_, 0, rfl, Nat.zero_le _, rfl⟩
    rintro m ρ hc ⟨i, rfl, hi, rfl, rfl⟩
    by_cases hlt : i < ts.length
    · have hlt' : (i : Int) < (ts.length : Int) := by omega
      obtain ⟨b1, o1, c1', heq1, _, hcell1⟩ := hsv.at (i := i) (by simpa using hlt)
      rw [List.length_map] at heq1
      cases heq1
      have e1 : cellAt hc ⟨b1, o1 + i, none⟩ = some (str (ts.getD i [])) := by rw [hcell1]; simp [hlt]
      have hst : ts.take (i + 1) = ts.take i ++ [ts.getD i []] := by rw [List.take_add_one]; simp [hlt]
      have hsl := slotsP_take (ts := ts) i
      generalize ts.getD i [] = t at *
      have hsp := slotP_le t
      have w1 : IntKind.i64.wrap ((i : Int) + 1) = ((i + 1 : Nat) : Int) := by rw [wrap_i64 (by omega) (by omega)]; omega
      have w2 : IntKind.i64.wrap (((1 + slotsP (ts.take i) : Nat) : Int) + (slotP t : Int)) = ((1 + slotsP (ts.take (i + 1)) : Nat) : Int) := by
        rw [hst, slotsP_snoc, wrap_i64 (by omega) (by omega)]; omega
      simp (disch := omega) only [C.ref2_called_gos, T.tv, seval, hlt', e1]
      refine eff_callF rfl ((rslots_any t).mono ?_)
      rintro v9 h9 ⟨rfl, rfl⟩
      simp only [C.ref2_called_gos, T.tv, seval, w1, w2]
      exact ⟨ts.length - (i + 1), by omega, i + 1, rfl, by omega, rfl⟩
    have hlt' : ¬ (i : Int) < (ts.length : Int) := by omega
    rw [List.take_of_length_le (show ts.length ≤ i by omega)]
    have k3 := memP_3 na
    have k2 := memP_2 na
    by_cases n3 : na = [60, 99, 108, 105, 110, 105, 116, 62]
    · rw [show (true && (!(decide (memP na true = 3) || (decide (memP na true = 2) && decide (x.op ≠ 183))) && (ok && (decide (x.op ≠ 185) || decide (((1 + slotsP ts : Nat) : Int) = x.B))))) = false by simp [k3.2 n3]]
      simp only [C.ref2_called_gos, T.tv, seval, hlt', eq_true n3]
      exact hx
    by_cases n2 : na = [60, 105, 110, 105, 116, 62] ∧ x.op ≠ 183
    · have o1 : ¬ (x.op : Int) = 183 := by omega
      rw [show (true && (!(decide (memP na true = 3) || (decide (memP na true = 2) && decide (x.op ≠ 183))) && (ok && (decide (x.op ≠ 185) || decide (((1 + slotsP ts : Nat) : Int) = x.B))))) = false by simp [k2.2 n2.1, n2.2]]
      simp only [C.ref2_called_gos, T.tv, seval, hlt', q1'', eq_false n3, eq_true n2.1, eq_false o1]
      exact hx
    rw [show (true && (!(decide (memP na true = 3) || (decide (memP na true = 2) && decide (x.op ≠ 183))) && (ok && (decide (x.op ≠ 185) || decide (((1 + slotsP ts : Nat) : Int) = x.B))))) = (ok && (decide (x.op ≠ 185) || decide (((1 + slotsP ts : Nat) : Int) = x.B))) by
      have : (decide (memP na true = 2) && decide (x.op ≠ 183)) = false := by
        rw [Bool.and_eq_false_iff, decide_eq_false_iff_not, decide_eq_false_iff_not, k2]
        by_cases hn : na = [60, 105, 110, 105, 116, 62]
        · exact .inr fun h => n2 ⟨hn, h⟩
        · exact .inl hn
      rw [this, decide_eq_false (fun h => n3 (k3.1 h))]; rfl]
    by_cases m2 : na = [60, 105, 110, 105, 116, 62]
    · have o1 : (x.op : Int) = 183 := by
        by_cases ho : x.op = 183
        · omega
        · exact absurd ⟨m2, ho⟩ n2
      cases ok with
      | false =>
        simp only [C.ref2_called_gos, T.tv, seval, hlt', q1'', eq_false n3, eq_true m2, eq_true o1]
        exact ⟨hx, rfl⟩
      | true =>
        by_cases o185 : x.op = 185
        case neg =>
          have o2 : ¬ (x.op : Int) = 185 := by omega
          rw [show (true && (decide (x.op ≠ 185) || decide (((1 + slotsP ts : Nat) : Int) = x.B))) = true by simp [o185]]
          simp only [C.ref2_called_gos, T.tv, seval, hlt', q1'', eq_false n3, eq_true m2, eq_true o1, eq_false o2]
          exact hx
        have o2 : (x.op : Int) = 185 := by omega
        rw [show (true && (decide (x.op ≠ 185) || decide (((1 + slotsP ts : Nat) : Int) = x.B))) = decide (((1 + slotsP ts : Nat) : Int) = x.B) by simp [o185]]
        simp only [C.ref2_called_gos, T.tv, seval, hlt', q1'', q4'', eq_false n3, eq_true m2, eq_true o1, eq_true o2]
        exact hx
    · skip
      cases ok with
      | false =>
        simp only [C.ref2_called_gos, T.tv, seval, hlt', eq_false n3, eq_false m2]
        exact ⟨hx, rfl⟩
      | true =>
        by_cases o185 : x.op = 185
        case neg =>
          have o2 : ¬ (x.op : Int) = 185 := by omega
          rw [show (true && (decide (x.op ≠ 185) || decide (((1 + slotsP ts : Nat) : Int) = x.B))) = true by simp [o185]]
          simp only [C.ref2_called_gos, T.tv, seval, hlt', q1'', eq_false n3, eq_false m2, eq_false o2]
          exact hx
        have o2 : (x.op : Int) = 185 := by omega
        rw [show (true && (decide (x.op ≠ 185) || decide (((1 + slotsP ts : Nat) : Int) = x.B))) = decide (((1 + slotsP ts : Nat) : Int) = x.B) by simp [o185]]
        simp only [C.ref2_called_gos, T.tv, seval, hlt', q1'', q4'', eq_false n3, eq_false m2, eq_true o2]
        exact hx
theorem rdims_any {h : Heap} (l : List UInt8) (hl : l.length ≤ 4294967296) : HCalls Tryz.prog 103 #[str l] h fun v h' => h' = h ∧ v = .int .i64 (nbr l : Nat) := by
  refine C.ref2_dims_calls (args := [str l]) rfl ?_
  simp only [C.ref2_dims_gos, T.tv, seval]
  refine loop_intro [0, 3] (fun m ρ hc => ∃ i : Nat, m = l.length - i ∧ i ≤ l.length ∧ ρ = [(0, str l), (3, .int .i64 (i : Int))] ∧ hc = h ∧ nbr l = i + nbr (l.drop i)) ?_ ?_
  · simp only [T.tv, seval]
    exact ⟨_, 0, rfl, Nat.zero_le _, rfl, by simp⟩
  rintro m ρ hc ⟨i, rfl, hi, rfl, rfl, hn⟩
  by_cases hlt : i < l.length
  · have hlt' : (i : Int) < (l.length : Int) := by omega
    have hd : l.drop i = l.getD i 0 :: l.drop (i + 1) := by rw [List.drop_eq_getElem_cons hlt]; simp [hlt]
    by_cases hb : l.getD i 0 = 91
    · have hb' : ((l.getD i 0).toNat : Int) = 91 := by rw [hb]; rfl
      have w1 : IntKind.i64.wrap ((i : Int) + 1) = ((i + 1 : Nat) : Int) := by rw [wrap_i64 (by omega) (by omega)]; omega
      simp (disch := omega) only [C.ref2_dims_gos, T.tv, seval, hlt', hb', w1]
      refine ⟨l.length - (i + 1), by omega, i + 1, rfl, by omega, rfl, ?_⟩
      rw [hn, hd, nbr, if_pos hb]; omega
    · have hb' : ¬ ((l.getD i 0).toNat : Int) = 91 := by
        intro e; apply hb; apply UInt8.toNat_inj.1; show _ = 91; omega
      have hni : nbr l = i := by rw [hn, hd, nbr, if_neg hb]; rfl
      rw [hni]
      simp (disch := omega) only [C.ref2_dims_gos, T.tv, seval, hlt', hb']
  · have hil : i = l.length := by omega
    subst hil
    have hlt' : ¬ (l.length : Int) < (l.length : Int) := by omega
    have hni : nbr l = l.length := by rw [hn, List.drop_length]; rfl
    rw [hni]
    simp only [C.ref2_dims_gos, T.tv, seval, hlt']
def tagI (p : List Cst) (A : Int) : Nat := if 0 < A ∧ A < (p.length : Int) then (p.getD A.toNat Cst.zero).tag else 0
theorem tagI_eq (p : List Cst) (A : Int) (t : Nat) (ht : t ≠ 0) : isI p A t = decide (((tagI p A : Nat) : Int) = (t : Int)) := by
  unfold isI isS tagI
  rw [Bool.eq_iff_iff]
  simp only [Bool.and_eq_true, decide_eq_true_eq]
  split
  · constructor
    · rintro ⟨_, _, _, h⟩; omega
    · intro h; refine ⟨?_, ?_, ?_, ?_⟩ <;> omega
  · constructor
    · rintro ⟨_, _, _, _⟩; omega
    · intro h; omega
theorem clsOf_name {p : List Cst} {A : Int} (h : isI p A 7 = true) : (clsOfS p A.toNat).1 = nameI p A := by
  unfold isI at h
  rw [Bool.and_eq_true] at h
  unfold clsOfS
  rw [if_pos h.2]
  rfl
theorem classOf_int {h : Heap} (k : Int) (hf : ∀ c ∈ p, c.Fit) (hs : SlN h 5 vp p.length (flatS p)) :
    HCalls Tryz.prog 61 #[vp, .int .i64 k] h fun v h' => h' = h ∧ v = .tuple #[str (clsOfS p k.toNat).1, .bool (clsOfS p k.toNat).2] := by
  by_cases h0 : 0 ≤ k
  · have := classOf_any (vp := vp) k.toNat hf hs
    rw [Int.toNat_of_nonneg h0] at this
    exact this
  · have hz : clsOfS p k.toNat = ([], false) := by
      unfold clsOfS
      rw [if_neg (by rw [show k.toNat = 0 by omega]; simp [isS])]
    rw [hz]
    refine C.ref1_ClassOf_calls (args := [vp, .int .i64 k]) rfl ?_
    simp only [C.ref1_ClassOf_gos, T.tv, seval]
    refine eff_callF rfl (HCalls.mono (R := fun v h' => h' = h ∧ v = .bool false) ?_ ?_)
    · refine C.ref1_Is_calls (args := [vp, .int .i64 k, .int .u8 7]) rfl ?_
      have h0' : ¬ (0 : Int) < k := by omega
      have hs' := hs
      obtain ⟨_, a, c, rfl, _⟩ := hs'
      simp only [C.ref1_Is_gos, T.tv, seval, h0']
    · rintro v1 h1 ⟨rfl, rfl⟩
      simp only [C.ref1_ClassOf_gos, T.tv, seval]
set_option maxHeartbeats 16000000 in
theorem op_tail {h0 h : Heap} {gx : Nat} {a : Option Addr} {c : Nat} {u0 u17 : Value} (t : Nat) (ht : t = tagI p x.A) (ht8 : t < 256) (hop : x.op < 256) (hf : ∀ c ∈ p, c.Fit) (htx : ∀ c ∈ p, c.text.length ≤ 4294967296)
    (hs : SlN h 5 (.slice a p.length c) p.length (flatS p)) (hx : Ext h0 h) (q0 : h[gx]? = some (rowX x ak bk nk ck nb cb)) :
    Cd.vc Tryz.prog C.ref2_operand_t0 (retQ Tryz.prog [(4, none)] fun v h' => Ext h0 h' ∧ v = .bool (operP x.op x.A x.B p))
      [(0, u0), (1, .slice a p.length c), (2, .pointer (some ⟨gx, 0, none⟩)), (4, .bool false), (5, .int .u8 (t : Int)), (6, undef), (17, u17), (32, undef), (33, undef), (46, undef), (54, undef), (61, undef), (72, undef), (81, undef), (90, undef), (99, undef), (104, undef)] h := by
  rw [C.ref2_operand_t0_go]
  have q1 : cellAt h ⟨gx, 1, none⟩ = some (.int .u8 (x.op : Int)) := by rw [cellAt_of q0]; rfl
  have q3 : cellAt h ⟨gx, 3, none⟩ = some (.int .i64 x.A) := by rw [cellAt_of q0]; rfl
  have q4 : cellAt h ⟨gx, 4, none⟩ = some (.int .i64 x.B) := by rw [cellAt_of q0]; rfl
  have hldx := ld_agg T.ag_98 (Rd_block (vs := [.int .i64 x.at', .int .u8 (x.op : Int), .bool x.wide, .int .i64 x.A, .int .i64 x.B, .int .i64 x.low, .slice ak nk ck, .slice bk nb cb]) q0) rfl
  simp only [C.ref2_operand_gos, T.tv, seval, q3]
  refine eff_callF rfl ((classOf_int x.A hf hs).mono ?_)
  rintro v1 h1 ⟨rfl, rfl⟩
  have hti : ∀ k : Nat, k ≠ 0 → isI p x.A k = decide ((t : Int) = (k : Int)) := fun k hk => by rw [ht]; exact tagI_eq p x.A k hk
  have hnm : (clsOfS p x.A.toNat).1.length ≤ 4294967296 := by
    unfold clsOfS
    split
    · exact strS_len htx _
    · simp
  have hcn := @clsOf_name p x.A
  generalize (clsOfS p x.A.toNat).1 = nm at *
  generalize (clsOfS p x.A.toNat).2 = nb2 at *
  have hany : ∀ k : Nat, k ≠ 0 → ([k] : List Nat).any (isI p x.A) = decide ((t : Int) = (k : Int)) := fun k hk => by simp [hti k hk]
  by_cases g0 : x.op = 18 ∨ x.op = 19
  case pos =>
    rw [show operP x.op x.A x.B p = ([3, 4, 8].any (isI p x.A)) by unfold operP; rw [if_pos (by omega)]]
    rcases g0 with e | e
    all_goals
      have hr : ([3, 4, 8] : List Nat).any (isI p x.A) = (decide ((t : Int) = 3) || (decide ((t : Int) = 4) || decide ((t : Int) = 8))) := by simp only [List.any_cons, List.any_nil, Bool.or_false]; rw [hti 3 (by decide), hti 4 (by decide), hti 8 (by decide)]; rfl
      rw [hr]
      by_cases t3 : (t : Int) = 3
      case pos =>
        simp (disch := omega) only [C.ref2_operand_gos, T.tv, seval, q1, va]
        first | exact hx | exact ⟨hx, rfl⟩ | exact ⟨hx, by simp [t3]⟩
      by_cases t4 : (t : Int) = 4
      case pos =>
        simp (disch := omega) only [C.ref2_operand_gos, T.tv, seval, q1, va]
        first | exact hx | exact ⟨hx, rfl⟩ | exact ⟨hx, by simp [t4]⟩
      simp (disch := omega) only [C.ref2_operand_gos, T.tv, seval, q1, va]
      first | exact hx | exact ⟨hx, rfl⟩ | exact ⟨hx, by simp [t3, t4]⟩
  by_cases g1 : x.op = 20
  case pos =>
    rw [show operP x.op x.A x.B p = ([5, 6].any (isI p x.A)) by unfold operP; rw [if_neg (by omega), if_pos (by omega)]]
    have hr : ([5, 6] : List Nat).any (isI p x.A) = (decide ((t : Int) = 5) || decide ((t : Int) = 6)) := by simp only [List.any_cons, List.any_nil, Bool.or_false]; rw [hti 5 (by decide), hti 6 (by decide)]; rfl
    rw [hr]
    by_cases t5 : (t : Int) = 5
    case pos =>
      simp (disch := omega) only [C.ref2_operand_gos, T.tv, seval, q1, va]
      first | exact hx | exact ⟨hx, rfl⟩ | exact ⟨hx, by simp [t5]⟩
    simp (disch := omega) only [C.ref2_operand_gos, T.tv, seval, q1, va]
    first | exact hx | exact ⟨hx, rfl⟩ | exact ⟨hx, by simp [t5]⟩
  by_cases g2 : x.op = 178 ∨ x.op = 179 ∨ x.op = 180 ∨ x.op = 181
  case pos =>
    rw [show operP x.op x.A x.B p = ([9].any (isI p x.A)) by unfold operP; rw [if_neg (by omega), if_neg (by omega), if_pos (by omega)]]
    rcases g2 with e | e | e | e
    all_goals
      have hr : ([9] : List Nat).any (isI p x.A) = decide ((t : Int) = 9) := by simp only [List.any_cons, List.any_nil, Bool.or_false]; rw [hti 9 (by decide)]; rfl
      rw [hr]
      simp (disch := omega) only [C.ref2_operand_gos, T.tv, seval, q1, va]
      first | exact hx | exact ⟨hx, rfl⟩ | exact ⟨hx, by simp⟩
  by_cases g3 : x.op = 182 ∨ x.op = 183 ∨ x.op = 184
  case pos =>
    rw [show operP x.op x.A x.B p = ([10].any (isI p x.A) && calledP x.op x.B p (p.getD x.A.toNat Cst.zero).b) by unfold operP; rw [if_neg (by omega), if_neg (by omega), if_neg (by omega), if_pos (by omega)]]
    rcases g3 with e | e | e
    all_goals
      rw [show ([10] : List Nat).any (isI p x.A) = decide ((t : Int) = 10) from hany 10 (by decide)]
      by_cases tk : (t : Int) = 10
      case neg =>
        rw [decide_eq_false tk]
        simp (disch := omega) only [C.ref2_operand_gos, T.tv, seval, q1, va]
        exact ⟨hx, rfl⟩
      have hA : 0 < x.A ∧ x.A < (p.length : Int) := by
        unfold tagI at ht
        split at ht
        · assumption
        · omega
      rw [decide_eq_true tk]
      simp (disch := omega) only [C.ref2_operand_gos, T.tv, seval, q1, hldx, va]
      refine eff_callF rfl ((rcalled_any (ak := ak) (bk := bk) (nk := nk) (ck := ck) (nb := nb) (cb := cb) (x := x) (by omega) (by omega) hf htx hs).mono ?_)
      rintro v6 h6 ⟨hx6, rfl⟩
      simp only [T.tv, seval]
      first | exact hx.trans hx6 | exact ⟨hx.trans hx6, rfl⟩
  by_cases g4 : x.op = 185
  case pos =>
    rw [show operP x.op x.A x.B p = ([11].any (isI p x.A) && calledP x.op x.B p (p.getD x.A.toNat Cst.zero).b) by unfold operP; rw [if_neg (by omega), if_neg (by omega), if_neg (by omega), if_neg (by omega), if_pos (by omega)]]
    rw [show ([11] : List Nat).any (isI p x.A) = decide ((t : Int) = 11) from hany 11 (by decide)]
    by_cases tk : (t : Int) = 11
    case neg =>
      rw [decide_eq_false tk]
      simp (disch := omega) only [C.ref2_operand_gos, T.tv, seval, q1, va]
      exact ⟨hx, rfl⟩
    have hA : 0 < x.A ∧ x.A < (p.length : Int) := by
      unfold tagI at ht
      split at ht
      · assumption
      · omega
    rw [decide_eq_true tk]
    simp (disch := omega) only [C.ref2_operand_gos, T.tv, seval, q1, hldx, va]
    refine eff_callF rfl ((rcalled_any (ak := ak) (bk := bk) (nk := nk) (ck := ck) (nb := nb) (cb := cb) (x := x) (by omega) (by omega) hf htx hs).mono ?_)
    rintro v6 h6 ⟨hx6, rfl⟩
    simp only [T.tv, seval]
    first | exact hx.trans hx6 | exact ⟨hx.trans hx6, rfl⟩
  by_cases g5 : x.op = 187
  case pos =>
    rw [show operP x.op x.A x.B p = ([7].any (isI p x.A) && decide (nbr (nameI p x.A) = 0)) by unfold operP; rw [if_neg (by omega), if_neg (by omega), if_neg (by omega), if_neg (by omega), if_neg (by omega), if_pos (by omega)]]
    rw [show ([7] : List Nat).any (isI p x.A) = decide ((t : Int) = 7) from hany 7 (by decide)]
    by_cases tk : (t : Int) = 7
    case neg =>
      rw [decide_eq_false tk]
      simp (disch := omega) only [C.ref2_operand_gos, T.tv, seval, q1, va]
      exact ⟨hx, rfl⟩
    have hn : nm = nameI p x.A := hcn (by rw [hti 7 (by decide)]; exact decide_eq_true tk)
    rw [decide_eq_true tk]
    simp (disch := omega) only [C.ref2_operand_gos, T.tv, seval, q1, va]
    refine eff_callF rfl ((rdims_any nm hnm).mono ?_)
    rintro v6 h6 ⟨rfl, rfl⟩
    have hd : decide (((nbr nm : Nat) : Int) = 0) = decide (nbr (nameI p x.A) = 0) := decide_eq_decide.2 (by rw [← hn] <;> omega)
    rw [Bool.true_and, ← hd]
    simp only [T.tv, seval]
    first | exact hx | exact ⟨hx, rfl⟩
  by_cases g6 : x.op = 189
  case pos =>
    rw [show operP x.op x.A x.B p = ([7].any (isI p x.A) && decide (nbr (nameI p x.A) < 255)) by unfold operP; rw [if_neg (by omega), if_neg (by omega), if_neg (by omega), if_neg (by omega), if_neg (by omega), if_neg (by omega), if_pos (by omega)]]
    rw [show ([7] : List Nat).any (isI p x.A) = decide ((t : Int) = 7) from hany 7 (by decide)]
    by_cases tk : (t : Int) = 7
    case neg =>
      rw [decide_eq_false tk]
      simp (disch := omega) only [C.ref2_operand_gos, T.tv, seval, q1, va]
      exact ⟨hx, rfl⟩
    have hn : nm = nameI p x.A := hcn (by rw [hti 7 (by decide)]; exact decide_eq_true tk)
    rw [decide_eq_true tk]
    simp (disch := omega) only [C.ref2_operand_gos, T.tv, seval, q1, va]
    refine eff_callF rfl ((rdims_any nm hnm).mono ?_)
    rintro v6 h6 ⟨rfl, rfl⟩
    have hd : decide (((nbr nm : Nat) : Int) < 255) = decide (nbr (nameI p x.A) < 255) := decide_eq_decide.2 (by rw [← hn] <;> omega)
    rw [Bool.true_and, ← hd]
    simp only [T.tv, seval]
    first | exact hx | exact ⟨hx, rfl⟩
  by_cases g7 : x.op = 192 ∨ x.op = 193
  case pos =>
    rw [show operP x.op x.A x.B p = ([7].any (isI p x.A)) by unfold operP; rw [if_neg (by omega), if_neg (by omega), if_neg (by omega), if_neg (by omega), if_neg (by omega), if_neg (by omega), if_neg (by omega), if_pos (by omega)]]
    rcases g7 with e | e
    all_goals
      have hr : ([7] : List Nat).any (isI p x.A) = decide ((t : Int) = 7) := by simp only [List.any_cons, List.any_nil, Bool.or_false]; rw [hti 7 (by decide)]; rfl
      rw [hr]
      simp (disch := omega) only [C.ref2_operand_gos, T.tv, seval, q1, va]
      first | exact hx | exact ⟨hx, rfl⟩ | exact ⟨hx, by simp⟩
  by_cases g8 : x.op = 197
  case pos =>
    rw [show operP x.op x.A x.B p = ([7].any (isI p x.A) && decide (x.B ≤ (nbr (nameI p x.A) : Int))) by unfold operP; rw [if_neg (by omega), if_neg (by omega), if_neg (by omega), if_neg (by omega), if_neg (by omega), if_neg (by omega), if_neg (by omega), if_neg (by omega), if_pos (by omega)]]
    rw [show ([7] : List Nat).any (isI p x.A) = decide ((t : Int) = 7) from hany 7 (by decide)]
    by_cases tk : (t : Int) = 7
    case neg =>
      rw [decide_eq_false tk]
      simp (disch := omega) only [C.ref2_operand_gos, T.tv, seval, q1, va]
      exact ⟨hx, rfl⟩
    have hn : nm = nameI p x.A := hcn (by rw [hti 7 (by decide)]; exact decide_eq_true tk)
    rw [decide_eq_true tk]
    simp (disch := omega) only [C.ref2_operand_gos, T.tv, seval, q1, q4, va]
    refine eff_callF rfl ((rdims_any nm hnm).mono ?_)
    rintro v6 h6 ⟨rfl, rfl⟩
    have hd : decide (x.B ≤ ((nbr nm : Nat) : Int)) = decide (x.B ≤ (nbr (nameI p x.A) : Int)) := decide_eq_decide.2 (by rw [← hn] <;> omega)
    rw [Bool.true_and, ← hd]
    simp only [T.tv, q4, seval]
    first | exact hx | exact ⟨hx, rfl⟩
  rw [show operP x.op x.A x.B p = true by unfold operP; rw [if_neg (by omega), if_neg (by omega), if_neg (by omega), if_neg (by omega), if_neg (by omega), if_neg (by omega), if_neg (by omega), if_neg (by omega), if_neg (by omega)]]
  simp (disch := omega) only [C.ref2_operand_gos, T.tv, seval, q1, va]
  exact hx
set_option maxHeartbeats 4000000 in
theorem roperand_any {h : Heap} (hop : x.op < 256) (hf : ∀ c ∈ p, c.Fit) (htx : ∀ c ∈ p, c.text.length ≤ 4294967296) (hs : SlN h 5 vp p.length (flatS p)) :
    HCalls Tryz.prog 80 #[aggX x ak bk nk ck nb cb, vp] h fun v h' => Ext h h' ∧ v = .bool (operP x.op x.A x.B p) := by
  have hs' := hs
  obtain ⟨_, a, c, rfl, _⟩ := hs'
  refine C.ref2_operand_calls (args := [aggX x ak bk nk ck nb cb, .slice a p.length c]) rfl ?_
  simp only [C.ref2_operand_gos, T.tv]
  refine eff_box ?_
  have q0 : (h.push (rowX x ak bk nk ck nb cb))[h.size]? = some (rowX x ak bk nk ck nb cb) := by simp
  have E1 := Ext.push h (rowX x ak bk nk ck nb cb)
  simp only [C.ref2_operand_gos, T.tv, seval]
  generalize h.push (rowX x ak bk nk ck nb cb) = h1 at *
  generalize h.size = gx at *
  have hs1 := hs.ext (by decide) E1
  have q3 : cellAt h1 ⟨gx, 3, none⟩ = some (.int .i64 x.A) := by rw [cellAt_of q0]; rfl
  by_cases a0 : 0 < x.A
  · by_cases al : x.A < (p.length : Int)
    · have hkl : x.A.toNat < p.length := by omega
      have ht : (p.getD x.A.toNat Cst.zero).tag = tagI p x.A := by unfold tagI; rw [if_pos ⟨a0, al⟩]
      have hft := hf (p.getD x.A.toNat Cst.zero) (by simp [hkl])
      have hs2 := hs1
      obtain ⟨b, o, c', heq, hrd, _⟩ := hs2.at hkl
      cases heq
      rw [flatS_at hkl] at hrd
      generalize p.getD x.A.toNat Cst.zero = y at *
      have r0 : cellAt h1 ⟨b, o + x.A.toNat * 5, none⟩ = some (.int .u8 (y.tag : Int)) := hrd 0 _ rfl
      have a0' : 0 ≤ x.A := by omega
      simp (disch := omega) only [C.ref2_operand_gos, T.tv, seval, q3, a0, al, r0]
      exact op_tail y.tag ht hft.tag hop hf htx hs1 E1 q0
    · have ht : 0 = tagI p x.A := by unfold tagI; rw [if_neg (by omega)]
      simp only [T.tv, q3, seval, a0, al]
      exact op_tail 0 ht (by decide) hop hf htx hs1 E1 q0
  · have ht : 0 = tagI p x.A := by unfold tagI; rw [if_neg (by omega)]
    simp only [T.tv, q3, seval, a0]
    exact op_tail 0 ht (by decide) hop hf htx hs1 E1 q0
end
end Go.Proofs.YtflocjbhcjhenaaGreatDoor
namespace Go.Proofs.YtflocjbhcjhenaaGreatDoor
open Go.Vc
set_option maxRecDepth 100000
def checkP (p : List Cst) (L : Int) : List In → Int × Int
  | [] => (0, 0)
  | x :: r => if roomP x.op x.A L && operP x.op x.A x.B p then checkP p L r else (15, x.at')
set_option maxHeartbeats 4000000 in
theorem check_any (l : List In) (v : Value) (h : Heap) (hl : InsC h v l) (hlf : ∀ x ∈ l, x.Fit) (hll : l.length ≤ 1048576) (L : Int) (hL : L < 9223372036854775808) {p : List Cst} {vp : Value} (hp : p.length ≤ 65536)
    (hf : ∀ c ∈ p, c.Fit) (htx : ∀ c ∈ p, c.text.length ≤ 4294967296) (hs : SlN h 5 vp p.length (flatS p)) :
    HCalls Tryz.prog 56 #[v, vp, .int .i64 L] h fun r h' => Ext h h' ∧ r = .tuple #[.int .i64 (checkP p L l).1, .int .i64 (checkP p L l).2] := by
  obtain ⟨_, _, hr2, _⟩ := id hl
  obtain ⟨_, a, c, rfl, _⟩ := hr2
  obtain ⟨_, a2, c2, rfl, _⟩ := id hs
  refine C.code_Check_calls (args := [.slice a l.length c, .slice a2 p.length c2, .int .i64 L]) rfl ?_
  simp only [C.code_Check_gos, T.tv, seval]
  refine loop_intro [1, 2, 10, 11, 12] (fun m ρ hc => ∃ i : Nat, m = l.length - i ∧ i ≤ l.length ∧
    ρ = [(1, .slice a2 p.length c2), (2, .int .i64 L), (10, .slice a l.length c), (11, .int .i64 (l.length : Int)), (12, .int .i64 (i : Int))] ∧ Ext h hc ∧ checkP p L l = checkP p L (l.drop i)) ?_ ?_
  · simp only [T.tv, seval]
    exact ⟨_, 0, rfl, Nat.zero_le _, rfl, Ext.refl _, by simp⟩
  rintro m ρ hc ⟨i, rfl, hi, rfl, hx, hck⟩
  by_cases hlt : i < l.length
  case neg =>
    have hlt' : ¬ (i : Int) < (l.length : Int) := by omega
    rw [hck, List.drop_of_length_le (by omega)]
    simp only [C.code_Check_gos, T.tv, seval, hlt']
    exact ⟨hx, rfl⟩
  have hlt' : (i : Int) < (l.length : Int) := by omega
  have w1 : IntKind.i64.wrap ((i : Int) + 1) = ((i + 1 : Nat) : Int) := by rw [wrap_i64 (by omega) (by omega)]; omega
  rw [drop_getD (d := in0) hlt, checkP] at hck
  have hfit := hlf (l.getD i in0) (getD_mem hlt)
  obtain ⟨b, o, c', vk, vt, heq, hrd0, sk, _, st, _⟩ := hl.at hlt
  cases heq
  generalize l.getD i in0 = x at *
  have hrd : Rd hc b (o + i * 8) (InV x vk vt) := hx.rd hrd0 (hrd0.lt (by simp [InV])) _root_.id
  obtain ⟨_, ak, ck, rfl, _⟩ := sk
  obtain ⟨_, bk, cb, rfl, _⟩ := st
  have hld := ld_agg T.ag_98 hrd rfl
  simp only [InV] at hld
  simp (disch := omega) only [C.code_Check_gos, T.tv, seval, hlt', hld]
  refine eff_alloc_z T.zr_98 ?_
  simp only [T.tv, seval]
  refine eff_store_new_z T.zr_98 rfl rfl rfl (by simp [Value.cells, oneCell]) rfl ?_
  intro h3 x3 hlt3 hrd3 b3
  change h3[hc.size]? = some (rowX x ak bk x.keys.length ck x.tgts.length cb) at b3
  have hx3 := hx.trans x3
  clear hld hrd hrd3
  generalize hc.size = q at *
  have ldx : ∀ h4, Ext h3 h4 → _ := fun h4 e4 => ld_agg T.ag_98 (Rd_block (vs := [.int .i64 x.at', .int .u8 (x.op : Int), .bool x.wide, .int .i64 x.A, .int .i64 x.B, .int .i64 x.low, .slice ak x.keys.length ck, .slice bk x.tgts.length cb]) (Fr_blk e4 b3 _root_.id)) rfl
  have ld3 := ldx h3 (Ext.refl _)
  simp only [C.code_Check_gos, T.tv, seval, ld3]
  refine eff_callF rfl ((room_any (ak := ak) (bk := bk) (ck := ck) (cb := cb) (nk := x.keys.length) (nb := x.tgts.length) hfit.op L h3 hL).mono ?_)
  rintro v4 h4 ⟨x4, rfl⟩
  have c4 : cellAt h4 ⟨q, 0, none⟩ = some (.int .i64 x.at') := by rw [cellAt_of (Fr_blk x4 b3 _root_.id)]; rfl
  cases hr : roomP x.op x.A L with
  | false =>
    rw [hr, Bool.false_and, if_neg (by decide)] at hck
    rw [hck]
    simp only [C.code_Check_gos, T.tv, seval, c4]
    exact hx3.trans x4
  | true =>
    rw [hr, Bool.true_and] at hck
    have ld4 := ldx h4 x4
    simp only [T.tv, ld4, seval]
    refine eff_callF rfl ((operand_any (ak := ak) (bk := bk) (ck := ck) (cb := cb) (nk := x.keys.length) (nb := x.tgts.length) hfit.op hp hf htx (hs.ext (by decide) (hx3.trans x4))).mono ?_)
    rintro v5 h5 ⟨x5, rfl⟩
    have c5 : cellAt h5 ⟨q, 0, none⟩ = some (.int .i64 x.at') := by rw [cellAt_of (Fr_blk (x4.trans x5) b3 _root_.id)]; rfl
    cases ho : operP x.op x.A x.B p with
    | false =>
      rw [ho, if_neg (by decide)] at hck
      rw [hck]
      simp only [C.code_Check_gos, T.tv, seval, c5]
      exact (hx3.trans x4).trans x5
    | true =>
      rw [ho, if_pos rfl] at hck
      simp only [C.code_Check_gos, T.tv, seval, w1]
      exact ⟨l.length - (i + 1), by omega, i + 1, rfl, by omega, rfl, (hx3.trans x4).trans x5, hck⟩
set_option maxHeartbeats 4000000 in
theorem rcheck_any (l : List In) (v : Value) (h : Heap) (hl : InsC h v l) (hlf : ∀ x ∈ l, x.Fit) (hll : l.length ≤ 1048576) (L : Int) (hL : L < 9223372036854775808) {p : List Cst} {vp : Value} (hp : p.length ≤ 65536)
    (hf : ∀ c ∈ p, c.Fit) (htx : ∀ c ∈ p, c.text.length ≤ 4294967296) (hs : SlN h 5 vp p.length (flatS p)) :
    HCalls Tryz.prog 63 #[v, vp, .int .i64 L] h fun r h' => Ext h h' ∧ r = .tuple #[.int .i64 (checkP p L l).1, .int .i64 (checkP p L l).2] := by
  obtain ⟨_, _, hr2, _⟩ := id hl
  obtain ⟨_, a, c, rfl, _⟩ := hr2
  obtain ⟨_, a2, c2, rfl, _⟩ := id hs
  refine C.ref2_Check_calls (args := [.slice a l.length c, .slice a2 p.length c2, .int .i64 L]) rfl ?_
  simp only [C.ref2_Check_gos, T.tv, seval]
  refine loop_intro [1, 2, 10, 11, 12] (fun m ρ hc => ∃ i : Nat, m = l.length - i ∧ i ≤ l.length ∧
    ρ = [(1, .slice a2 p.length c2), (2, .int .i64 L), (10, .slice a l.length c), (11, .int .i64 (l.length : Int)), (12, .int .i64 (i : Int))] ∧ Ext h hc ∧ checkP p L l = checkP p L (l.drop i)) ?_ ?_
  · simp only [T.tv, seval]
    exact ⟨_, 0, rfl, Nat.zero_le _, rfl, Ext.refl _, by simp⟩
  rintro m ρ hc ⟨i, rfl, hi, rfl, hx, hck⟩
  by_cases hlt : i < l.length
  case neg =>
    have hlt' : ¬ (i : Int) < (l.length : Int) := by omega
    rw [hck, List.drop_of_length_le (by omega)]
    simp only [C.ref2_Check_gos, T.tv, seval, hlt']
    exact ⟨hx, rfl⟩
  have hlt' : (i : Int) < (l.length : Int) := by omega
  have w1 : IntKind.i64.wrap ((i : Int) + 1) = ((i + 1 : Nat) : Int) := by rw [wrap_i64 (by omega) (by omega)]; omega
  rw [drop_getD (d := in0) hlt, checkP] at hck
  have hfit := hlf (l.getD i in0) (getD_mem hlt)
  obtain ⟨b, o, c', vk, vt, heq, hrd0, sk, _, st, _⟩ := hl.at hlt
  cases heq
  generalize l.getD i in0 = x at *
  have hrd : Rd hc b (o + i * 8) (InV x vk vt) := hx.rd hrd0 (hrd0.lt (by simp [InV])) _root_.id
  obtain ⟨_, ak, ck, rfl, _⟩ := sk
  obtain ⟨_, bk, cb, rfl, _⟩ := st
  have hld := ld_agg T.ag_98 hrd rfl
  simp only [InV] at hld
  simp (disch := omega) only [C.ref2_Check_gos, T.tv, seval, hlt', hld]
  refine eff_alloc_z T.zr_98 ?_
  simp only [T.tv, seval]
  refine eff_store_new_z T.zr_98 rfl rfl rfl (by simp [Value.cells, oneCell]) rfl ?_
  intro h3 x3 hlt3 hrd3 b3
  change h3[hc.size]? = some (rowX x ak bk x.keys.length ck x.tgts.length cb) at b3
  have hx3 := hx.trans x3
  clear hld hrd hrd3
  generalize hc.size = q at *
  have ldx : ∀ h4, Ext h3 h4 → _ := fun h4 e4 => ld_agg T.ag_98 (Rd_block (vs := [.int .i64 x.at', .int .u8 (x.op : Int), .bool x.wide, .int .i64 x.A, .int .i64 x.B, .int .i64 x.low, .slice ak x.keys.length ck, .slice bk x.tgts.length cb]) (Fr_blk e4 b3 _root_.id)) rfl
  have ld3 := ldx h3 (Ext.refl _)
  simp only [C.ref2_Check_gos, T.tv, seval, ld3]
  refine eff_callF rfl ((rroom_any (ak := ak) (bk := bk) (ck := ck) (cb := cb) (nk := x.keys.length) (nb := x.tgts.length) hfit.op L h3 hL).mono ?_)
  rintro v4 h4 ⟨x4, rfl⟩
  have c4 : cellAt h4 ⟨q, 0, none⟩ = some (.int .i64 x.at') := by rw [cellAt_of (Fr_blk x4 b3 _root_.id)]; rfl
  cases hr : roomP x.op x.A L with
  | false =>
    rw [hr, Bool.false_and, if_neg (by decide)] at hck
    rw [hck]
    simp only [C.ref2_Check_gos, T.tv, seval, c4]
    exact hx3.trans x4
  | true =>
    rw [hr, Bool.true_and] at hck
    have ld4 := ldx h4 x4
    simp only [T.tv, ld4, seval]
    refine eff_callF rfl ((roperand_any (ak := ak) (bk := bk) (ck := ck) (cb := cb) (nk := x.keys.length) (nb := x.tgts.length) hfit.op hf htx (hs.ext (by decide) (hx3.trans x4))).mono ?_)
    rintro v5 h5 ⟨x5, rfl⟩
    have c5 : cellAt h5 ⟨q, 0, none⟩ = some (.int .i64 x.at') := by rw [cellAt_of (Fr_blk (x4.trans x5) b3 _root_.id)]; rfl
    cases ho : operP x.op x.A x.B p with
    | false =>
      rw [ho, if_neg (by decide)] at hck
      rw [hck]
      simp only [C.ref2_Check_gos, T.tv, seval, c5]
      exact (hx3.trans x4).trans x5
    | true =>
      rw [ho, if_pos rfl] at hck
      simp only [C.ref2_Check_gos, T.tv, seval, w1]
      exact ⟨l.length - (i + 1), by omega, i + 1, rfl, by omega, rfl, (hx3.trans x4).trans x5, hck⟩
end Go.Proofs.YtflocjbhcjhenaaGreatDoor

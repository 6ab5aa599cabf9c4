/- Fields checked, by the program. A field checked, by the program. The flags of a method, by the program. Code checked, by the program. A method checked, by the program. No condition. -/
import Derived.Test.YtflocjbhcjhenaaGreatDoorFA
import Derived.Test.YtflocjbhcjhenaaGreatDoorND10
set_option linter.unusedSimpArgs false
set_option linter.unusedVariables false
namespace Go.Proofs.YtflocjbhcjhenaaGreatDoor
open Go.Vc
set_option maxRecDepth 100000
def cntM (f : Nat) : List Nat → Nat
  | [] => 0
  | m :: r => (if f &&& m = 0 then 0 else 1) + cntM f r
def mostP (f : Nat) (ms : List Nat) : Bool := decide (cntM f ms ≤ 1)
theorem cntM_le (f : Nat) : ∀ ms, cntM f ms ≤ ms.length
  | [] => Nat.le_refl _
  | m :: r => by have := cntM_le f r; rw [cntM, List.length_cons]; split <;> omega
theorem cntM_snoc (f m : Nat) : ∀ ms, cntM f (ms ++ [m]) = cntM f ms + (if f &&& m = 0 then 0 else 1)
  | [] => by simp [cntM]
  | x :: r => by rw [List.cons_append, cntM, cntM_snoc f m r, cntM]; omega
def strN : List UInt8 := [76, 106, 97, 118, 97, 47, 108, 97, 110, 103, 47, 83, 116, 114, 105, 110, 103, 59]
def valT (of : List UInt8) : Nat :=
  if of = [73] ∨ of = [83] ∨ of = [67] ∨ of = [66] ∨ of = [90] then 3 else if of = [74] then 5 else if of = [70] then 4 else if of = [68] then 6 else if of = strN then 8 else 0
def valK (p : List Cst) (x : Nat) (of : List UInt8) : Bool := decide (valT of ≠ 0) && isS p x (valT of)
def fldK (fl : Nat) (p : List Cst) (seen : List TT) (f : Fld) : Nat :=
  if isS p f.name 1 = false ∨ isS p f.type 1 = false then 7
  else if memP (strS p f.name) false = 0 then 8
  else if fieldP (strS p f.type) = false then 9
  else if mostP f.flags [1, 2, 4] = false ∨ mostP f.flags [16, 64] = false then 10
  else if fl &&& 512 ≠ 0 ∧ f.flags &&& 223 ≠ 25 then 10
  else if (strS p f.name, strS p f.type) ∈ seen then 11
  else if f.value ≠ 0 ∧ valK p f.value (strS p f.type) = false then 7 else 0
section
variable {h : Heap} {g : Nat} {c : Cls} {vp vi vf vm : Value}
theorem most_any (f : Nat) (hf : f < 65536) (ms : List Nat) (hms : ∀ m ∈ ms, m < 65536) (hlen : ms.length ≤ 1000) {tv : Value} (hts : Sl h tv (ms.map fun t : Nat => .int .u16 (t : Int))) :
    HCalls Tryz.prog 26 #[.int .u16 (f : Int), tv] h fun v h' => h' = h ∧ v = .bool (mostP f ms) := by
  refine C.class_most_calls (args := [.int .u16 (f : Int), tv]) rfl ?_
  have hts' := hts
  obtain ⟨a, c, rfl, _⟩ := hts'
  rw [List.length_map]
  simp only [C.class_most_gos, T.tv, seval]
  refine loop_intro [0, 5, 8, 9, 10] (fun m ρ hc => ∃ i : Nat, m = ms.length - i ∧ i ≤ ms.length ∧
    ρ = [(0, .int .u16 (f : Int)), (5, .int .i64 (cntM f (ms.take i) : Nat)), (8, .slice a ms.length c), (9, .int .i64 (ms.length : Int)), (10, .int .i64 (i : Int))] ∧ hc = h) ?_ ?_
  · simp only [T.tv, seval]
    exact ⟨_, 0, rfl, Nat.zero_le _, rfl⟩
  rintro m ρ hc ⟨i, rfl, hi, rfl, rfl⟩
  have hcl := cntM_le f (ms.take i)
  rw [List.length_take] at hcl
  by_cases hlt : i < ms.length
  · have hlt' : (i : Int) < (ms.length : Int) := by omega
    obtain ⟨b, o, c', heq, _, hcell⟩ := hts.at (i := i) (by simpa using hlt)
    rw [List.length_map] at heq
    cases heq
    have hcell' : cellAt hc ⟨b, o + i, none⟩ = some (.int .u16 ((ms.getD i 0 : Nat) : Int)) := by rw [hcell]; simp [hlt]
    have hst : ms.take (i + 1) = ms.take i ++ [ms.getD i 0] := take_getD hlt
    have hm := hms _ (getD_mem (d := 0) hlt)
    generalize ms.getD i 0 = t at *
    have w1 : IntKind.i64.wrap ((i : Int) + 1) = ((i + 1 : Nat) : Int) := by rw [wrap_i64 (by omega) (by omega)]; omega
    have hb := and16 f t hf hm
    have hsn := cntM_snoc f t (ms.take i)
    rw [← hst] at hsn
    by_cases hz : f &&& t = 0
    · rw [if_pos hz] at hsn
      rw [hz] at hb
      simp (disch := omega) only [C.class_most_gos, T.tv, seval, hlt', hcell', hb, w1, va]
      exact ⟨ms.length - (i + 1), by omega, i + 1, rfl, by omega, by rw [hsn]; rfl⟩
    · rw [if_neg hz] at hsn
      have w2 : IntKind.i64.wrap (((cntM f (ms.take i) : Nat) : Int) + 1) = ((cntM f (ms.take (i + 1)) : Nat) : Int) := by rw [hsn, wrap_i64 (by omega) (by omega)]; omega
      generalize f &&& t = ft at *
      simp (disch := omega) only [C.class_most_gos, T.tv, seval, hlt', hcell', hb, w1, w2, va]
      exact ⟨ms.length - (i + 1), by omega, i + 1, rfl, by omega, rfl⟩
  · have hlt' : ¬ (i : Int) < (ms.length : Int) := by omega
    rw [List.take_of_length_le (by omega)]
    have e : decide (((cntM f ms : Nat) : Int) ≤ 1) = mostP f ms := decide_eq_decide.2 (by omega)
    simp only [C.class_most_gos, T.tv, seval, hlt', e]
set_option maxHeartbeats 2000000 in
theorem ckvalue_any (H : CB h g c vp vi vf vm) (k : Nat) (hk : k < 65536) (of : List UInt8) :
    HCalls Tryz.prog 28 #[ckV g, .int .u16 k, str of] h fun v h' => Ext h h' ∧ v = .bool (valK c.pool k of) := by
  refine C.ck_value_calls (args := [ckV g, .int .u16 k, str of]) rfl ?_
  simp only [C.ck_value_gos, T.tv]
  refine eff_box ?_
  have B := Bx.new (h := h) (g := g)
  have E := Ext.push h (.cells #[.pointer (some ⟨g, 0, none⟩)] 46)
  simp only [C.ck_value_gos, T.tv, seval]
  generalize h.push (.cells #[.pointer (some ⟨g, 0, none⟩)] 46) = h1 at *
  generalize h.size = q at *
  have H1 := H.ext E
  have b0 := B.p
  have c5 : cellAt h1 ⟨g, 5, none⟩ = some vp := H1.at rfl
  unfold valK valT strN
  have fin : ∀ t : Nat, t ≠ 0 → (decide (t ≠ 0) && isS c.pool k t) = isS c.pool k t := fun t ht => by rw [decide_eq_true ht, Bool.true_and]
  by_cases n0 : of = [73]
  case pos =>
    rw [show (if of = [73] ∨ of = [83] ∨ of = [67] ∨ of = [66] ∨ of = [90] then 3 else if of = [74] then 5 else if of = [70] then 4 else if of = [68] then 6 else if of = [76, 106, 97, 118, 97, 47, 108, 97, 110, 103, 47, 83, 116, 114, 105, 110, 103, 59] then 8 else 0) = 3 by rw [if_pos (by simp [n0])], fin 3 (by decide)]
    simp only [C.ck_value_gos, T.tv, seval, b0, c5, eq_true n0]
    refine eff_callF rfl ((is_any k 3 hk H1.cls.p).mono ?_)
    rintro v2 h2 ⟨rfl, rfl⟩
    simp only [T.tv, seval]
    exact E
  by_cases n1 : of = [83]
  case pos =>
    rw [show (if of = [73] ∨ of = [83] ∨ of = [67] ∨ of = [66] ∨ of = [90] then 3 else if of = [74] then 5 else if of = [70] then 4 else if of = [68] then 6 else if of = [76, 106, 97, 118, 97, 47, 108, 97, 110, 103, 47, 83, 116, 114, 105, 110, 103, 59] then 8 else 0) = 3 by rw [if_pos (by simp [n1])], fin 3 (by decide)]
    simp only [C.ck_value_gos, T.tv, seval, b0, c5, eq_false n0, eq_true n1]
    refine eff_callF rfl ((is_any k 3 hk H1.cls.p).mono ?_)
    rintro v2 h2 ⟨rfl, rfl⟩
    simp only [T.tv, seval]
    exact E
  by_cases n2 : of = [67]
  case pos =>
    rw [show (if of = [73] ∨ of = [83] ∨ of = [67] ∨ of = [66] ∨ of = [90] then 3 else if of = [74] then 5 else if of = [70] then 4 else if of = [68] then 6 else if of = [76, 106, 97, 118, 97, 47, 108, 97, 110, 103, 47, 83, 116, 114, 105, 110, 103, 59] then 8 else 0) = 3 by rw [if_pos (by simp [n2])], fin 3 (by decide)]
    simp only [C.ck_value_gos, T.tv, seval, b0, c5, eq_false n0, eq_false n1, eq_true n2]
    refine eff_callF rfl ((is_any k 3 hk H1.cls.p).mono ?_)
    rintro v2 h2 ⟨rfl, rfl⟩
    simp only [T.tv, seval]
    exact E
  by_cases n3 : of = [66]
  case pos =>
    rw [show (if of = [73] ∨ of = [83] ∨ of = [67] ∨ of = [66] ∨ of = [90] then 3 else if of = [74] then 5 else if of = [70] then 4 else if of = [68] then 6 else if of = [76, 106, 97, 118, 97, 47, 108, 97, 110, 103, 47, 83, 116, 114, 105, 110, 103, 59] then 8 else 0) = 3 by rw [if_pos (by simp [n3])], fin 3 (by decide)]
    simp only [C.ck_value_gos, T.tv, seval, b0, c5, eq_false n0, eq_false n1, eq_false n2, eq_true n3]
    refine eff_callF rfl ((is_any k 3 hk H1.cls.p).mono ?_)
    rintro v2 h2 ⟨rfl, rfl⟩
    simp only [T.tv, seval]
    exact E
  by_cases n4 : of = [90]
  case pos =>
    rw [show (if of = [73] ∨ of = [83] ∨ of = [67] ∨ of = [66] ∨ of = [90] then 3 else if of = [74] then 5 else if of = [70] then 4 else if of = [68] then 6 else if of = [76, 106, 97, 118, 97, 47, 108, 97, 110, 103, 47, 83, 116, 114, 105, 110, 103, 59] then 8 else 0) = 3 by rw [if_pos (by simp [n4])], fin 3 (by decide)]
    simp only [C.ck_value_gos, T.tv, seval, b0, c5, eq_false n0, eq_false n1, eq_false n2, eq_false n3, eq_true n4]
    refine eff_callF rfl ((is_any k 3 hk H1.cls.p).mono ?_)
    rintro v2 h2 ⟨rfl, rfl⟩
    simp only [T.tv, seval]
    exact E
  by_cases n5 : of = [74]
  case pos =>
    rw [show (if of = [73] ∨ of = [83] ∨ of = [67] ∨ of = [66] ∨ of = [90] then 3 else if of = [74] then 5 else if of = [70] then 4 else if of = [68] then 6 else if of = [76, 106, 97, 118, 97, 47, 108, 97, 110, 103, 47, 83, 116, 114, 105, 110, 103, 59] then 8 else 0) = 5 by rw [if_neg (by simp [n5]), if_pos n5], fin 5 (by decide)]
    simp only [C.ck_value_gos, T.tv, seval, b0, c5, eq_false n0, eq_false n1, eq_false n2, eq_false n3, eq_false n4, eq_true n5]
    refine eff_callF rfl ((is_any k 5 hk H1.cls.p).mono ?_)
    rintro v2 h2 ⟨rfl, rfl⟩
    simp only [T.tv, seval]
    exact E
  by_cases n6 : of = [70]
  case pos =>
    rw [show (if of = [73] ∨ of = [83] ∨ of = [67] ∨ of = [66] ∨ of = [90] then 3 else if of = [74] then 5 else if of = [70] then 4 else if of = [68] then 6 else if of = [76, 106, 97, 118, 97, 47, 108, 97, 110, 103, 47, 83, 116, 114, 105, 110, 103, 59] then 8 else 0) = 4 by rw [if_neg (by simp [n6]), if_neg n5, if_pos n6], fin 4 (by decide)]
    simp only [C.ck_value_gos, T.tv, seval, b0, c5, eq_false n0, eq_false n1, eq_false n2, eq_false n3, eq_false n4, eq_false n5, eq_true n6]
    refine eff_callF rfl ((is_any k 4 hk H1.cls.p).mono ?_)
    rintro v2 h2 ⟨rfl, rfl⟩
    simp only [T.tv, seval]
    exact E
  by_cases n7 : of = [68]
  case pos =>
    rw [show (if of = [73] ∨ of = [83] ∨ of = [67] ∨ of = [66] ∨ of = [90] then 3 else if of = [74] then 5 else if of = [70] then 4 else if of = [68] then 6 else if of = [76, 106, 97, 118, 97, 47, 108, 97, 110, 103, 47, 83, 116, 114, 105, 110, 103, 59] then 8 else 0) = 6 by rw [if_neg (by simp [n7]), if_neg n5, if_neg n6, if_pos n7], fin 6 (by decide)]
    simp only [C.ck_value_gos, T.tv, seval, b0, c5, eq_false n0, eq_false n1, eq_false n2, eq_false n3, eq_false n4, eq_false n5, eq_false n6, eq_true n7]
    refine eff_callF rfl ((is_any k 6 hk H1.cls.p).mono ?_)
    rintro v2 h2 ⟨rfl, rfl⟩
    simp only [T.tv, seval]
    exact E
  by_cases n8 : of = [76, 106, 97, 118, 97, 47, 108, 97, 110, 103, 47, 83, 116, 114, 105, 110, 103, 59]
  case pos =>
    rw [show (if of = [73] ∨ of = [83] ∨ of = [67] ∨ of = [66] ∨ of = [90] then 3 else if of = [74] then 5 else if of = [70] then 4 else if of = [68] then 6 else if of = [76, 106, 97, 118, 97, 47, 108, 97, 110, 103, 47, 83, 116, 114, 105, 110, 103, 59] then 8 else 0) = 8 by rw [if_neg (by simp [n8]), if_neg n5, if_neg n6, if_neg n7, if_pos n8], fin 8 (by decide)]
    simp only [C.ck_value_gos, T.tv, seval, b0, c5, eq_false n0, eq_false n1, eq_false n2, eq_false n3, eq_false n4, eq_false n5, eq_false n6, eq_false n7, eq_true n8]
    refine eff_callF rfl ((is_any k 8 hk H1.cls.p).mono ?_)
    rintro v2 h2 ⟨rfl, rfl⟩
    simp only [T.tv, seval]
    exact E
  rw [if_neg (by simp [n0, n1, n2, n3, n4]), if_neg n5, if_neg n6, if_neg n7, if_neg n8]
  simp only [C.ck_value_gos, T.tv, seval, eq_false n0, eq_false n1, eq_false n2, eq_false n3, eq_false n4, eq_false n5, eq_false n6, eq_false n7, eq_false n8]
  first | exact E | exact ⟨E, rfl⟩
end
end Go.Proofs.YtflocjbhcjhenaaGreatDoor
namespace Go.Proofs.YtflocjbhcjhenaaGreatDoor
open Go.Vc
set_option maxRecDepth 100000
abbrev fldA (f : Fld) : Value := .agg #[.int .u16 (f.flags : Int), .int .u16 (f.name : Int), .int .u16 (f.type : Int), .int .u16 (f.value : Int)]
abbrev fldO (f : Fld) : Obj := .cells #[.int .u16 (f.flags : Int), .int .u16 (f.name : Int), .int .u16 (f.type : Int), .int .u16 (f.value : Int)] 51
section
variable {h0 h : Heap} {g mb : Nat} {c : Cls} {vp vi vf vm : Value} {seen : List TT}
def FldR (h0 : Heap) (mb : Nat) (seen : List TT) (k : TT) (e : Nat) (v : Value) (h' : Heap) : Prop :=
  Ext h0 h' ∧ v = .int .i64 (e : Nat) ∧ (e = 0 → MapO kP h' mb (cntF (seen ++ [k]))) 
theorem ext_map {h0 h1 h2 : Heap} {mb : Nat} (X : Ext h0 h1) (f : Fr (fun k => k = mb) h1 h2) (hm : h0.size ≤ mb) : Ext h0 h2 := Fr.trans X f (fun _ _ h => h) (fun k hk hS => by omega)
theorem tags_sl {h : Heap} {b : Nat} {ts : List Nat} (H : Rd h b 0 (ts.map fun t : Nat => .int .u16 (t : Int))) : Sl h (.slice (some ⟨b, 0, none⟩) ts.length ts.length) (ts.map fun t : Nat => .int .u16 (t : Int)) :=
  ⟨some ⟨b, 0, none⟩, ts.length, by rw [List.length_map], .inr ⟨b, 0, rfl, H⟩⟩
set_option maxHeartbeats 8000000 in
theorem ckfield_any (H : CB h0 g c vp vi vf vm) (F : CF c) (X : Ext h0 h) (hm : h0.size ≤ mb) (HM : MapO kP h mb (cntF seen)) (f : Fld) (hf : f.Fit) :
    HCalls Tryz.prog 11 #[ckV g, fldA f, .map (some mb)] h (FldR h0 mb seen (strS c.pool f.name, strS c.pool f.type) (fldK c.flags c.pool seen f)) := by
  refine C.ck_field_calls (args := [ckV g, fldA f, .map (some mb)]) rfl ?_
  have hml := HM.lt
  simp only [C.ck_field_gos, T.tv]
  refine eff_box ?_
  have B := Bx.new (h := h) (g := g)
  have E := Ext.push h (.cells #[.pointer (some ⟨g, 0, none⟩)] 46)
  simp only [T.tv, seval]
  generalize h.push (.cells #[.pointer (some ⟨g, 0, none⟩)] 46) = h1 at *
  have hqm : mb < h.size := hml
  generalize h.size = q at *
  refine eff_box ?_
  have E1 := Ext.push h1 (fldO f)
  have qc : (h1.push (fldO f))[h1.size]? = some (fldO f) := by simp
  have B := B.ext E1
  have hq2 := E.size
  simp only [C.ck_field_gos, T.tv, seval]
  generalize h1.push (fldO f) = h2 at *
  have hqm2 : mb < h1.size := by have := (HM.fr E _root_.id).lt; omega
  generalize h1.size = q2 at *
  have x2 := (X.trans E).trans E1
  have M2 := (HM.fr E _root_.id).fr E1 _root_.id
  have key : ∀ h3, Fr (fun k => k = mb) h2 h3 → cellAt h3 ⟨q2, 0, none⟩ = some (.int .u16 (f.flags : Int)) ∧ cellAt h3 ⟨q2, 1, none⟩ = some (.int .u16 (f.name : Int)) ∧ cellAt h3 ⟨q2, 2, none⟩ = some (.int .u16 (f.type : Int)) ∧ cellAt h3 ⟨q2, 3, none⟩ = some (.int .u16 (f.value : Int)) ∧ Bx h3 q g ∧ CB h3 g c vp vi vf vm := by
    intro h3 x3
    have b2 := Fr_blk x3 qc (by omega)
    refine ⟨?_, ?_, ?_, ?_, Fr_blk x3 B (by omega), H.ext (ext_map x2 x3 hm)⟩
    all_goals rw [cellAt_of b2]; rfl
  have up : ∀ {a b : Heap}, Ext a b → Fr (fun k => k = mb) a b := fun e => ⟨e.size, fun k hk _ => e.same k hk _root_.id⟩
  have tr : ∀ {a b c : Heap}, Fr (fun k => k = mb) a b → Fr (fun k => k = mb) b c → Fr (fun k => k = mb) a c := fun p q => Fr.trans p q (fun _ _ h => h) (fun _ _ h => h)
  obtain ⟨k0, k1, k2, k3, B2, H2⟩ := key h2 (up (Ext.refl _))
  have la := F.str f.name
  have lb := F.str f.type
  have bl := B2.l
  simp only [T.tv, bl, seval, k1]
  refine eff_callF rfl ((cktext_any H2 f.name hf.name).mono ?_)
  rintro v3 h3 ⟨x3, rfl⟩
  obtain ⟨k0, k1, k2, k3, B3, H3⟩ := key h3 (up x3)
  have bl := B3.l
  simp only [C.ck_field_gos, T.tv, seval, bl, k2]
  refine eff_callF rfl ((cktext_any H3 f.type hf.type).mono ?_)
  rintro v4 h4 ⟨x4, rfl⟩
  have x24 := x3.trans x4
  obtain ⟨k0, k1, k2, k3, B4, H4⟩ := key h4 (up x24)
  have M4 := M2.fr x24 _root_.id
  have b0 := B4.p
  have c2 : cellAt h4 ⟨g, 2, none⟩ = some (.int .u16 (c.flags : Int)) := H4.at rfl
  have a1 : bitsV .and .u16 (c.flags : Int) 512 = ((c.flags &&& 512 : Nat) : Int) := and16 _ 512 F.fit.flags (by decide)
  have a2 : bitsV .and .u16 (f.flags : Int) 223 = ((f.flags &&& 223 : Nat) : Int) := and16 _ 223 hf.flags (by decide)
  have xx := x2.trans x24
  unfold FldR fldK
  generalize strS c.pool f.name = na at *
  generalize strS c.pool f.type = nd at *
  have vk := fun (h : Heap) (H : CB h g c vp vi vf vm) => ckvalue_any H f.value hf.value nd
  generalize isS c.pool f.name 1 = i1 at *
  generalize isS c.pool f.type 1 = i2 at *
  generalize c.flags &&& 512 = cf at *
  generalize f.flags &&& 223 = ff at *
  cases i1 with
  | false =>
    rw [if_pos (.inl rfl)]
    simp only [C.ck_field_gos, T.tv, ↓reduceIte, Nat.reduceEqDiff, reduceCtorEq, b0, c2, a1]
    exact ⟨xx, rfl⟩
  | true =>
    cases i2 with
    | false =>
      rw [if_pos (.inr rfl)]
      simp only [C.ck_field_gos, T.tv, ↓reduceIte, Nat.reduceEqDiff, reduceCtorEq, b0, c2, a1]
      exact ⟨xx, rfl⟩
    | true =>
      rw [if_neg (by simp)]
      simp only [C.ck_field_gos, T.tv, seval, b0, c2, a1]
      refine eff_callF rfl ((member_any na false la).mono ?_)
      rintro v5 h5 ⟨x5, rfl⟩
      by_cases m0 : memP na false = 0
      · rw [if_pos m0]
        simp (disch := omega) only [C.ck_field_gos, T.tv, ↓reduceIte, Nat.reduceEqDiff, reduceCtorEq, va]
        exact ⟨xx.trans x5, rfl⟩
      rw [if_neg m0]
      simp (disch := omega) only [C.ck_field_gos, T.tv, seval, va]
      refine eff_callF rfl ((field_any nd lb).mono ?_)
      rintro v6 h6 ⟨x6, rfl⟩
      have x26 := (x24.trans x5).trans x6
      have xx6 := x2.trans x26
      cases hfd : fieldP nd with
      | false =>
        rw [if_pos rfl]
        simp only [C.ck_field_gos, T.tv, ↓reduceIte, Nat.reduceEqDiff, reduceCtorEq]
        exact ⟨xx6, rfl⟩
      | true =>
        rw [if_neg (by decide)]
        obtain ⟨k0, k1, k2, k3, B6, H6⟩ := key h6 (up x26)
        simp only [C.ck_field_gos, T.tv, seval, k0]
        refine eff_lits T.slT_24 rfl rfl (by decide) ?_
        simp only [T.tv]
        have e7 := Ext.push h6 (.cells #[.int .u16 1, .int .u16 2, .int .u16 4] 22)
        have t7 : Sl (h6.push (.cells #[.int .u16 1, .int .u16 2, .int .u16 4] 22)) (.slice (some ⟨h6.size, 0, none⟩) 3 3) (([1, 2, 4] : List Nat).map fun t : Nat => .int .u16 (t : Int)) := tags_sl (ts := [1, 2, 4]) (Rd_new (vs := [.int .u16 1, .int .u16 2, .int .u16 4]))
        generalize h6.push (.cells #[.int .u16 1, .int .u16 2, .int .u16 4] 22) = h7 at *
        generalize h6.size = q7 at *
        refine eff_callF rfl ((most_any f.flags hf.flags [1, 2, 4] (by decide) (by decide) t7).mono ?_)
        rintro v8 h8 ⟨rfl, rfl⟩
        have x28 := x26.trans e7
        have xx8 := x2.trans x28
        cases mostP f.flags [1, 2, 4] with
        | false =>
          rw [if_pos (.inl rfl)]
          simp only [C.ck_field_gos, T.tv, ↓reduceIte, Nat.reduceEqDiff, reduceCtorEq]
          exact ⟨xx8, rfl⟩
        | true =>
          obtain ⟨k0, k1, k2, k3, B8, H8⟩ := key h8 (up x28)
          simp only [T.tv, k0, seval]
          refine eff_lits T.slT_24 rfl rfl (by decide) ?_
          simp only [T.tv, seval]
          have e9 := Ext.push h8 (.cells #[.int .u16 16, .int .u16 64] 22)
          have t9 : Sl (h8.push (.cells #[.int .u16 16, .int .u16 64] 22)) (.slice (some ⟨h8.size, 0, none⟩) 2 2) (([16, 64] : List Nat).map fun t : Nat => .int .u16 (t : Int)) := tags_sl (ts := [16, 64]) (Rd_new (vs := [.int .u16 16, .int .u16 64]))
          generalize h8.push (.cells #[.int .u16 16, .int .u16 64] 22) = h9 at *
          generalize h8.size = q9 at *
          refine eff_callF rfl ((most_any f.flags hf.flags [16, 64] (by decide) (by decide) t9).mono ?_)
          rintro v10 h10 ⟨rfl, rfl⟩
          have x20 := x28.trans e9
          have xx0 := x2.trans x20
          cases mostP f.flags [16, 64] with
          | false =>
            rw [if_pos (.inr rfl)]
            simp only [C.ck_field_gos, T.tv, ↓reduceIte, Nat.reduceEqDiff, reduceCtorEq]
            exact ⟨xx0, rfl⟩
          | true =>
            rw [if_neg (by simp)]
            obtain ⟨k0, k1, k2, k3, B10, H10⟩ := key h10 (up x20)
            have M10 := M2.fr x20 _root_.id
            by_cases hcf : cf ≠ 0 ∧ ff ≠ 25
            · rw [if_pos hcf]
              obtain ⟨hc1, hc2⟩ := hcf
              simp (disch := omega) only [C.ck_field_gos, T.tv, ↓reduceIte, Nat.reduceEqDiff, reduceCtorEq, k0, a2, va]
              exact ⟨xx0, rfl⟩
            rw [if_neg hcf]
            by_cases hc1 : cf = 0
            case pos =>
              simp (disch := omega) only [C.ck_field_gos, T.tv, seval, va]
              refine eff_callF rfl ((twice_any M10 na nd).mono ?_)
              rintro v11 h11 ⟨f11, rfl, hM11⟩
              obtain ⟨k0, k1, k2, k3, B11, H11⟩ := key h11 (tr (up x20) f11)
              have xx1 := ext_map xx0 f11 hm
              have bl := B11.l
              by_cases hs : (na, nd) ∈ seen
              case pos =>
                rw [if_pos hs]
                simp only [C.ck_field_gos, T.tv, ↓reduceIte, Nat.reduceEqDiff, reduceCtorEq, decide_eq_true hs]
                exact ⟨xx1, rfl⟩
              rw [if_neg hs]
              have M11 := hM11 hs
              by_cases v0 : f.value = 0
              case pos =>
                rw [if_neg (by simp [v0])]
                simp (disch := omega) only [C.ck_field_gos, T.tv, seval, decide_eq_false hs, k3, va]
                first | exact ⟨xx1, rfl, fun _ => M11⟩ | exact ⟨xx1, fun _ => M11⟩ | exact ⟨xx1, rfl, M11⟩ | exact ⟨xx1, M11⟩
              simp (disch := omega) only [C.ck_field_gos, T.tv, seval, decide_eq_false hs, k3, bl, va]
              refine eff_callF rfl ((vk h11 H11).mono ?_)
              rintro v12 h12 ⟨x12, rfl⟩
              have M12 := M11.fr x12 _root_.id
              cases valK c.pool f.value nd with
              | false =>
                rw [if_pos ⟨v0, rfl⟩]
                simp only [C.ck_field_gos, T.tv, ↓reduceIte, Nat.reduceEqDiff, reduceCtorEq]
                exact ⟨xx1.trans x12, rfl⟩
              | true =>
                rw [if_neg (by simp)]
                simp only [C.ck_field_gos, T.tv, seval]
                first | exact ⟨xx1.trans x12, rfl, fun _ => M12⟩ | exact ⟨xx1.trans x12, fun _ => M12⟩ | exact ⟨xx1.trans x12, rfl, M12⟩ | exact ⟨xx1.trans x12, M12⟩
            have hc2 : ff = 25 := by omega
            simp (disch := omega) only [C.ck_field_gos, T.tv, seval, k0, a2, va]
            refine eff_callF rfl ((twice_any M10 na nd).mono ?_)
            rintro v11 h11 ⟨f11, rfl, hM11⟩
            obtain ⟨k0, k1, k2, k3, B11, H11⟩ := key h11 (tr (up x20) f11)
            have xx1 := ext_map xx0 f11 hm
            have bl := B11.l
            by_cases hs : (na, nd) ∈ seen
            case pos =>
              rw [if_pos hs]
              simp only [C.ck_field_gos, T.tv, ↓reduceIte, Nat.reduceEqDiff, reduceCtorEq, decide_eq_true hs]
              exact ⟨xx1, rfl⟩
            rw [if_neg hs]
            have M11 := hM11 hs
            by_cases v0 : f.value = 0
            case pos =>
              rw [if_neg (by simp [v0])]
              simp (disch := omega) only [C.ck_field_gos, T.tv, seval, decide_eq_false hs, k3, va]
              first | exact ⟨xx1, rfl, fun _ => M11⟩ | exact ⟨xx1, fun _ => M11⟩ | exact ⟨xx1, rfl, M11⟩ | exact ⟨xx1, M11⟩
            simp (disch := omega) only [C.ck_field_gos, T.tv, seval, decide_eq_false hs, k3, bl, va]
            refine eff_callF rfl ((vk h11 H11).mono ?_)
            rintro v12 h12 ⟨x12, rfl⟩
            have M12 := M11.fr x12 _root_.id
            cases valK c.pool f.value nd with
            | false =>
              rw [if_pos ⟨v0, rfl⟩]
              simp only [C.ck_field_gos, T.tv, ↓reduceIte, Nat.reduceEqDiff, reduceCtorEq]
              exact ⟨xx1.trans x12, rfl⟩
            | true =>
              rw [if_neg (by simp)]
              simp only [C.ck_field_gos, T.tv, seval]
              first | exact ⟨xx1.trans x12, rfl, fun _ => M12⟩ | exact ⟨xx1.trans x12, fun _ => M12⟩ | exact ⟨xx1.trans x12, rfl, M12⟩ | exact ⟨xx1.trans x12, M12⟩
end
end Go.Proofs.YtflocjbhcjhenaaGreatDoor
namespace Go.Proofs.YtflocjbhcjhenaaGreatDoor
open Go.Vc
set_option maxRecDepth 100000
def mflK (cf f kind : Nat) : Bool :=
  if kind = 3 then decide (f &&& 1280 = 0) && decide (f &&& 8 ≠ 0)
  else if cf &&& 512 ≠ 0 then decide (f &&& 3391 = 1025) && decide (kind ≠ 2)
  else if mostP f [1, 2, 4] = false then false
  else if f &&& 1024 ≠ 0 then decide (f &&& 314 = 0) && (decide (cf &&& 1024 ≠ 0) && decide (kind ≠ 2))
  else if kind = 2 then decide (f &&& 312 = 0) else true
section
variable {h : Heap} {g : Nat} {c : Cls} {vp vi vf vm : Value}
set_option maxHeartbeats 4000000 in
theorem ckflags_any (H : CB h g c vp vi vf vm) (F : CF c) (f : Nat) (hf : f < 65536) (kind : Nat) (hk : kind < 4) :
    HCalls Tryz.prog 29 #[ckV g, .int .u16 (f : Int), .int .i64 (kind : Int)] h fun v h' => Ext h h' ∧ v = .bool (mflK c.flags f kind) := by
  refine C.ck_flags_calls (args := [ckV g, .int .u16 (f : Int), .int .i64 (kind : Int)]) rfl ?_
  simp only [C.ck_flags_gos, T.tv]
  refine eff_box ?_
  have B := Bx.new (h := h) (g := g)
  have E := Ext.push h (.cells #[.pointer (some ⟨g, 0, none⟩)] 46)
  simp only [C.ck_flags_gos, T.tv, seval]
  generalize h.push (.cells #[.pointer (some ⟨g, 0, none⟩)] 46) = h1 at *
  generalize h.size = q at *
  have H1 := H.ext E
  have b0 := B.p
  have c2 : cellAt h1 ⟨g, 2, none⟩ = some (.int .u16 (c.flags : Int)) := H1.at rfl
  have a1 : bitsV .and .u16 (c.flags : Int) 512 = ((c.flags &&& 512 : Nat) : Int) := and16 _ 512 F.fit.flags (by decide)
  have a2 : bitsV .and .u16 (c.flags : Int) 1024 = ((c.flags &&& 1024 : Nat) : Int) := and16 _ 1024 F.fit.flags (by decide)
  have a3 : bitsV .and .u16 (f : Int) 1280 = ((f &&& 1280 : Nat) : Int) := and16 _ 1280 hf (by decide)
  have a4 : bitsV .and .u16 (f : Int) 8 = ((f &&& 8 : Nat) : Int) := and16 _ 8 hf (by decide)
  have a5 : bitsV .and .u16 (f : Int) 3391 = ((f &&& 3391 : Nat) : Int) := and16 _ 3391 hf (by decide)
  have a6 : bitsV .and .u16 (f : Int) 1024 = ((f &&& 1024 : Nat) : Int) := and16 _ 1024 hf (by decide)
  have a7 : bitsV .and .u16 (f : Int) 314 = ((f &&& 314 : Nat) : Int) := and16 _ 314 hf (by decide)
  have a8 : bitsV .and .u16 (f : Int) 312 = ((f &&& 312 : Nat) : Int) := and16 _ 312 hf (by decide)
  unfold mflK
  generalize c.flags &&& 512 = z1 at *
  generalize c.flags &&& 1024 = z2 at *
  generalize f &&& 1280 = z3 at *
  generalize f &&& 8 = z4 at *
  generalize f &&& 3391 = z5 at *
  generalize f &&& 1024 = z6 at *
  generalize f &&& 314 = z7 at *
  generalize f &&& 312 = z8 at *
  by_cases k3 : kind = 3
  · rw [if_pos k3]
    by_cases y3 : z3 = 0
    · by_cases y4 : z4 = 0
      all_goals
        simp (disch := omega) only [C.ck_flags_gos, T.tv, seval, b0, c2, a1, a3, a4, va]
        exact ⟨E, by simp []⟩
    · simp (disch := omega) only [C.ck_flags_gos, T.tv, seval, b0, c2, a1, a3, va]
      exact ⟨E, by simp []⟩
  rw [if_neg k3]
  by_cases y1 : z1 ≠ 0
  · rw [if_pos y1]
    by_cases y5 : z5 = 1025
    · by_cases k2 : kind = 2
      all_goals
        simp (disch := omega) only [C.ck_flags_gos, T.tv, seval, b0, c2, a1, a5, va]
        exact ⟨E, by simp []⟩
    · simp (disch := omega) only [C.ck_flags_gos, T.tv, seval, b0, c2, a1, a5, va]
      exact ⟨E, by simp []⟩
  rw [if_neg y1]
  simp (disch := omega) only [C.ck_flags_gos, T.tv, seval, b0, c2, a1, va]
  refine eff_lits T.slT_24 rfl rfl (by decide) ?_
  simp only [T.tv]
  have e7 := Ext.push h1 (.cells #[.int .u16 1, .int .u16 2, .int .u16 4] 22)
  have t7 : Sl (h1.push (.cells #[.int .u16 1, .int .u16 2, .int .u16 4] 22)) (.slice (some ⟨h1.size, 0, none⟩) 3 3) (([1, 2, 4] : List Nat).map fun t : Nat => .int .u16 (t : Int)) := tags_sl (ts := [1, 2, 4]) (Rd_new (vs := [.int .u16 1, .int .u16 2, .int .u16 4]))
  generalize h1.push (.cells #[.int .u16 1, .int .u16 2, .int .u16 4] 22) = h2 at *
  generalize h1.size = q7 at *
  refine eff_callF rfl ((most_any f hf [1, 2, 4] (by decide) (by decide) t7).mono ?_)
  rintro v3 h3 ⟨rfl, rfl⟩
  have E2 := E.trans e7
  have b0 := (B.ext e7).p
  have c2 : cellAt h3 ⟨g, 2, none⟩ = some (.int .u16 (c.flags : Int)) := (H1.ext e7).at rfl
  cases mostP f [1, 2, 4] with
  | false =>
    rw [if_pos rfl]
    simp only [C.ck_flags_gos, T.tv, seval]
    exact E2
  | true =>
    rw [if_neg (by decide)]
    by_cases y6 : z6 ≠ 0
    · rw [if_pos y6]
      by_cases y7 : z7 = 0
      · by_cases y2 : z2 = 0
        · simp (disch := omega) only [C.ck_flags_gos, T.tv, seval, b0, c2, a2, a6, a7, va]
          exact ⟨E2, by simp []⟩
        · by_cases k2 : kind = 2
          all_goals
            simp (disch := omega) only [C.ck_flags_gos, T.tv, seval, b0, c2, a2, a6, a7, va]
            exact ⟨E2, by simp []⟩
      · simp (disch := omega) only [C.ck_flags_gos, T.tv, seval, a6, a7, va]
        exact ⟨E2, by simp []⟩
    · rw [if_neg y6]
      by_cases k2 : kind = 2
      · rw [if_pos k2]
        by_cases y8 : z8 = 0
        all_goals
          simp (disch := omega) only [C.ck_flags_gos, T.tv, seval, a6, a8, va]
          first | exact E2 | exact ⟨E2, by simp [y8]⟩ | exact ⟨E2, rfl⟩
      · rw [if_neg k2]
        simp (disch := omega) only [C.ck_flags_gos, T.tv, seval, a6, va]
        exact E2
end
end Go.Proofs.YtflocjbhcjhenaaGreatDoor
namespace Go.Proofs.YtflocjbhcjhenaaGreatDoor
open Go.Vc
set_option maxRecDepth 100000
def badH (ats : List Int) (L : Int) (x : Hnd) : Bool :=
  !((decide (x.from' ∈ ats ∨ x.from' = L) && decide (x.to ∈ ats ∨ x.to = L)) && (decide (x.target ∈ ats) && decide (x.from' < x.to)))
def hndK (p : List Cst) (ats : List Int) (L : Int) : Nat → List Hnd → Int × Int
  | _, [] => (0, 0)
  | n, x :: r => if badH ats L x = true then (16, (n : Int)) else if x.type ≠ 0 ∧ (clsOfS p x.type).2 = false then (7, (n : Int)) else hndK p ats L (n + 1) r
def codK (p : List Cst) (cd : Cde) : Int × Int :=
  if (decD cd.bytes).2.1 ≠ 0 then (((decD cd.bytes).2.1 : Int), ((decD cd.bytes).2.2 : Int))
  else if (checkP p cd.maxL (decD cd.bytes).1).1 ≠ 0 then checkP p cd.maxL (decD cd.bytes).1
  else hndK p ((decD cd.bytes).1.map In.at') (cd.bytes.length : Int) 0 cd.hs
theorem allD_at (l : List UInt8) : ∀ (k : Nat) (xs : List In) (s : RS), (∀ x ∈ xs, 0 ≤ x.at' ∧ x.at' < (l.length : Int)) → ∀ x ∈ (allD l k xs s).1, 0 ≤ x.at' ∧ x.at' < (l.length : Int)
  | 0, xs, s, H => H
  | k + 1, xs, s, H => by
    rw [allD]
    split
    · rename_i hc
      refine allD_at l k _ _ fun x hx => ?_
      rcases List.mem_append.1 hx with hx | hx
      · exact H x hx
      · simp only [List.mem_singleton] at hx
        subst hx
        rw [(oneD_fit l s).1]; omega
    · exact H
theorem decD_at (l : List UInt8) : ∀ x ∈ (decD l).1, 0 ≤ x.at' ∧ x.at' < (l.length : Int) := by
  unfold decD
  split
  · simp
  · unfold endD
    simp only []
    split
    · simp
    · exact allD_at l _ _ _ (by simp)
theorem decD_num (l : List UInt8) : (decD l).1.length ≤ 65535 := by
  have key : ∀ (k : Nat) (xs : List In) (s : RS), (allD l k xs s).1.length ≤ xs.length + k := by
    intro k
    induction k with
    | zero => intro xs s; exact Nat.le_refl _
    | succ k ih =>
      intro xs s
      rw [allD]
      split
      · have := ih (xs ++ [(oneD l s).1]) (oneD l s).2
        rw [List.length_append, List.length_singleton] at this; omega
      · simp only []; omega
  unfold decD
  split
  · simp
  · unfold endD
    simp only []
    split
    · simp
    · have := key l.length [] ⟨0, 0, 0⟩
      rw [List.length_nil] at this
      simp only []
      omega
theorem checkP_01 (p : List Cst) (L : Int) : ∀ l, (checkP p L l).1 = 0 ∨ (checkP p L l).1 = 15
  | [] => .inl rfl
  | x :: r => by
    rw [checkP]
    split
    · exact checkP_01 p L r
    · exact .inr rfl
def kJ : Int → Value := fun a => .int .i64 a
theorem kJ_key (a : Int) : Go.MapKept.IsKey (.int .i64) (kJ a) := rfl
theorem kJ_inj (a a' : Int) (h : kJ a = kJ a') : a = a' := by cases h; rfl
theorem mp_jj : mpT Tryz.prog 95 (.int .i64) (.int .i64 0) := ⟨_, _, _, rfl, rfl, rfl, rfl⟩
structure BgF (F : Int → Option Value) (ats : List Int) (L : Int) : Prop where
  h1 : ∀ a ∈ ats, ∃ n : Nat, n < 1073741824 ∧ F a = some (.int .i64 (n : Int))
  h2 : F L = some (.int .i64 (-1))
  h3 : ∀ a, a ∉ ats → a ≠ L → F a = none
theorem BgF.new (L : Int) : BgF (fun a' => if a' = L then some (.int .i64 (-1)) else none) [] L := ⟨fun a ha => absurd ha (by simp), if_pos rfl, fun a _ hL => if_neg hL⟩
theorem BgF.snoc {F : Int → Option Value} {ats : List Int} {L a : Int} {n : Nat} (H : BgF F ats L) (hn : n < 1073741824) (ha : a ≠ L) : BgF (fun a' => if a' = a then some (.int .i64 (n : Int)) else F a') (ats ++ [a]) L := by
  refine ⟨fun b hb => ?_, ?_, fun b hb hL => ?_⟩
  · by_cases he : b = a
    · exact ⟨n, hn, if_pos he⟩
    · rw [List.mem_append, List.mem_singleton] at hb
      obtain ⟨k, h1, h2⟩ := H.h1 b (hb.resolve_right he)
      exact ⟨k, h1, by rw [if_neg he]; exact h2⟩
  · rw [if_neg (Ne.symm ha)]; exact H.h2
  · rw [List.mem_append, List.mem_singleton, not_or] at hb
    rw [if_neg hb.2]; exact H.h3 b hb.1 hL
theorem BgF.some {F : Int → Option Value} {ats : List Int} {L a : Int} (H : BgF F ats L) : (F a).isSome = decide (a ∈ ats ∨ a = L) := by
  by_cases h1 : a ∈ ats
  · obtain ⟨n, _, h⟩ := H.h1 a h1
    rw [h, decide_eq_true (.inl h1)]; rfl
  · by_cases h2 : a = L
    · rw [h2, H.h2, decide_eq_true (.inr rfl)]; rfl
    · rw [H.h3 a h1 h2, decide_eq_false (by simp [h1, h2])]; rfl
section
variable {h : Heap} {g : Nat} {c : Cls} {vp vi vf vm : Value}
abbrev cdA (cd : Cde) (vH : Value) : Value := .agg #[.int .i64 cd.maxS, .int .i64 cd.maxL, str cd.bytes, vH, str cd.map]
set_option maxHeartbeats 8000000 in
theorem ckcode_any (H : CB h g c vp vi vf vm) (F : CF c) (cd : Cde) {vH : Value} (hcf : cd.Fit) (hH : SlN h 4 vH cd.hs.length (flatH cd.hs)) (hbl : cd.bytes.length ≤ 1073741824) (hhl : cd.hs.length ≤ 1073741824) :
    HCalls Tryz.prog 31 #[ckV g, cdA cd vH] h fun v h' => Ext h h' ∧ v = .tuple #[.int .i64 (codK c.pool cd).1, .int .i64 (codK c.pool cd).2] := by
  obtain ⟨_, ah, ch, rfl, _⟩ := id hH
  refine C.ck_code_calls (args := [ckV g, cdA cd (.slice ah cd.hs.length ch)]) rfl ?_
  simp only [C.ck_code_gos, T.tv]
  refine eff_box ?_
  have B := Bx.new (h := h) (g := g)
  have E := Ext.push h (.cells #[.pointer (some ⟨g, 0, none⟩)] 46)
  simp only [T.tv, seval]
  generalize h.push (.cells #[.pointer (some ⟨g, 0, none⟩)] 46) = h1 at *
  generalize h.size = q at *
  refine eff_box ?_
  have E1 := Ext.push h1 (.cells #[.int .i64 cd.maxS, .int .i64 cd.maxL, str cd.bytes, .slice ah cd.hs.length ch, str cd.map] 41)
  have qc : (h1.push (.cells #[.int .i64 cd.maxS, .int .i64 cd.maxL, str cd.bytes, .slice ah cd.hs.length ch, str cd.map] 41))[h1.size]? = some (.cells #[.int .i64 cd.maxS, .int .i64 cd.maxL, str cd.bytes, .slice ah cd.hs.length ch, str cd.map] 41 (0, 0)) := by simp
  have B := B.ext E1
  simp only [C.ck_code_gos, T.tv, seval]
  generalize h1.push (.cells #[.int .i64 cd.maxS, .int .i64 cd.maxL, str cd.bytes, .slice ah cd.hs.length ch, str cd.map] 41) = h2 at *
  generalize h1.size = q2 at *
  have x2 := E.trans E1
  have key : ∀ h3, Ext h2 h3 → cellAt h3 ⟨q2, 1, none⟩ = some (.int .i64 cd.maxL) ∧ cellAt h3 ⟨q2, 2, none⟩ = some (str cd.bytes) ∧ cellAt h3 ⟨q2, 3, none⟩ = some (.slice ah cd.hs.length ch) ∧ Bx h3 q g ∧ CB h3 g c vp vi vf vm := by
    intro h3 x3
    have b2 := Fr_blk x3 qc _root_.id
    refine ⟨?_, ?_, ?_, B.ext x3, H.ext (x2.trans x3)⟩
    all_goals rw [cellAt_of b2]; rfl
  obtain ⟨k1, k2, k3, B2, H2⟩ := key h2 (Ext.refl _)
  simp only [T.tv, k2]
  refine eff_callF rfl ((decode_any cd.bytes h2 hbl).mono ?_)
  rintro v3 h3 ⟨x3, sv, rfl, hIF⟩
  have hI := hIF.insC
  have hat := decD_at cd.bytes
  have hfit := decD_fit cd.bytes hbl
  have hnum := decD_num cd.bytes
  have hat' : ∀ a ∈ (decD cd.bytes).1.map In.at', 0 ≤ a ∧ a < (cd.bytes.length : Int) := by
    intro a ha
    obtain ⟨x, hx, rfl⟩ := List.mem_map.1 ha
    exact hat x hx
  clear hIF hat
  unfold codK
  generalize (decD cd.bytes).2.1 = e1 at *
  generalize (decD cd.bytes).2.2 = e2 at *
  generalize (decD cd.bytes).1 = l at *
  have xx3 := x2.trans x3
  by_cases he1 : e1 ≠ 0
  · rw [if_pos he1]
    simp (disch := omega) only [C.ck_code_gos, T.tv, seval, va]
    exact xx3
  rw [if_neg he1]
  obtain ⟨k1, k2, k3, B3, H3⟩ := key h3 x3
  have b0 := B3.p
  have c5 : cellAt h3 ⟨g, 5, none⟩ = some vp := H3.at rfl
  obtain ⟨_, _, hr2, _⟩ := id hI
  obtain ⟨_, al, cl, rfl, _⟩ := hr2
  simp (disch := omega) only [C.ck_code_gos, T.tv, seval, b0, c5, k1, va]
  refine eff_callF rfl ((check_any l _ h3 hI hfit (by omega) cd.maxL (by have := hcf.l2; omega) F.len F.fit.pool F.txt H3.cls.p).mono ?_)
  rintro v4 h4 ⟨x4, rfl⟩
  have hck := checkP_01 c.pool cd.maxL l
  have xx4 := xx3.trans x4
  by_cases hk : (checkP c.pool cd.maxL l).1 ≠ 0
  · rw [if_pos hk]
    generalize checkP c.pool cd.maxL l = kk at *
    have hk' : kk.1 = 15 := by omega
    rw [hk']
    simp only [C.ck_code_gos, T.tv, seval, Int.reduceEq]
    exact xx4
  rw [if_neg hk]
  have hk' : (checkP c.pool cd.maxL l).1 = 0 := by omega
  rw [hk']
  generalize (checkP c.pool cd.maxL l).2 = k22 at *
  have x24 := x3.trans x4
  obtain ⟨k1, k2, k3, B4, H4⟩ := key h4 x24
  simp only [C.ck_code_gos, T.tv, seval]
  refine eff_makemap ?_
  have M0 : MapO kJ (h4.push (.map #[] 0)) h4.size (fun _ => none) := MapO.new
  have e5 := Ext.push h4 (.map #[] 0)
  have k2' : cellAt (h4.push (.map #[] 0)) ⟨q2, 2, none⟩ = some (str cd.bytes) := (key _ (x24.trans e5)).2.1
  generalize h4.push (.map #[] 0) = h5 at *
  obtain ⟨mb, hmbe⟩ : ∃ y, y = h4.size := ⟨_, rfl⟩
  rw [← hmbe] at M0 ⊢
  simp only [T.tv, k2', seval]
  refine eff_insert (eff_mapset (K := _) mp_jj kJ_key kJ_inj (a := (cd.bytes.length : Int)) (b := mb) (F := fun _ => none) rfl rfl rfl M0 ?_)
  intro h6 M6 f6 _
  have x46 : Ext h4 h6 := Fr.trans e5 f6 (fun _ _ h => h) (fun k hk hS => by omega)
  have B0 := BgF.new (cd.bytes.length : Int)
  generalize (fun a' : Int => if a' = (cd.bytes.length : Int) then some (Value.int .i64 (-1)) else none) = G0 at *
  simp only [C.ck_code_gos, T.tv, seval]
  refine loop_intro [2, 3, 11, 56, 57, 58] (fun m ρ hc => ∃ (i : Nat) (G : Int → Option Value), m = l.length - i ∧ i ≤ l.length ∧
    ρ = [(2, .pointer (some ⟨q, 0, none⟩)), (3, .pointer (some ⟨q2, 0, none⟩)), (11, .map (some mb)), (56, .slice al l.length cl), (57, .int .i64 (l.length : Int)), (58, .int .i64 (i : Int))] ∧ Ext h4 hc ∧
    MapO kJ hc mb G ∧ BgF G ((l.take i).map In.at') (cd.bytes.length : Int)) ?_ ?_
  · simp only [T.tv, seval]
    exact ⟨_, 0, G0, rfl, Nat.zero_le _, rfl, x46, M6, by simpa using B0⟩
  rintro m ρ hc ⟨i, G, rfl, hi, rfl, hx, hM, hG⟩
  by_cases hlt : i < l.length
  · have hlt' : (i : Int) < (l.length : Int) := by omega
    have w1 : IntKind.i64.wrap ((i : Int) + 1) = ((i + 1 : Nat) : Int) := by rw [wrap_i64 (by omega) (by omega)]; omega
    obtain ⟨b, o, c', vk, vt, heq, hrd0, sk, _, st, _⟩ := (hI.ext (x4.trans hx)).at hlt
    cases heq
    have hax := hat' (l.getD i in0).at' (List.mem_map_of_mem (getD_mem hlt))
    have hst := take_getD (l := l) (d := in0) hlt
    generalize l.getD i in0 = x at *
    obtain ⟨_, ak, ck, rfl, _⟩ := sk
    obtain ⟨_, bk, cb, rfl, _⟩ := st
    have hld := ld_agg T.ag_98 hrd0 rfl
    simp only [InV] at hld
    simp (disch := omega) only [C.ck_code_gos, T.tv, seval, hlt', hld]
    refine eff_alloc_z T.zr_98 ?_
    simp only [T.tv, seval]
    refine eff_store_new_z T.zr_98 rfl rfl rfl (by simp [Value.cells, oneCell]) rfl ?_
    intro h7 x7 _ hrd7 b7
    have c0 : cellAt h7 ⟨hc.size, 0, none⟩ = some (.int .i64 x.at') := hrd7 0 _ rfl
    have M7 := hM.fr x7 _root_.id
    simp only [C.ck_code_gos, T.tv, seval, c0]
    refine eff_mapset (K := _) mp_jj kJ_key kJ_inj (a := x.at') (b := mb) (F := G) rfl rfl rfl M7 ?_
    intro h8 M8 f8 _
    have x48 : Ext h4 h8 := Fr.trans (hx.trans x7) f8 (fun _ _ h => h) (fun k hk hS => by omega)
    simp only [C.ck_code_gos, T.tv, seval, w1]
    refine ⟨l.length - (i + 1), by omega, i + 1, _, rfl, by omega, rfl, x48, M8, ?_⟩
    rw [hst, List.map_append]
    exact hG.snoc (by omega) (by omega)
  have hlt' : ¬ (i : Int) < (l.length : Int) := by omega
  rw [List.take_of_length_le (by omega)] at hG
  generalize l.map In.at' = ats at *
  obtain ⟨k1, k2, k3, B5, H5⟩ := key hc (x24.trans hx)
  simp only [C.ck_code_gos, T.tv, seval, hlt', k3]
  refine loop_intro [2, 11, 69, 70, 71] (fun m ρ hd => ∃ i : Nat, m = cd.hs.length - i ∧ i ≤ cd.hs.length ∧
    ρ = [(2, .pointer (some ⟨q, 0, none⟩)), (11, .map (some mb)), (69, .slice ah cd.hs.length ch), (70, .int .i64 (cd.hs.length : Int)), (71, .int .i64 (i : Int))] ∧ Ext hc hd ∧
    hndK c.pool ats (cd.bytes.length : Int) 0 cd.hs = hndK c.pool ats (cd.bytes.length : Int) i (cd.hs.drop i)) ?_ ?_
  · simp only [T.tv, seval]
    exact ⟨_, 0, rfl, Nat.zero_le _, rfl, Ext.refl _, by simp⟩
  rintro m ρ hd ⟨j, rfl, hj, rfl, hxd, hhk⟩
  have xxd := (xx4.trans hx).trans hxd
  by_cases hjt : j < cd.hs.length
  case neg =>
    have hjt' : ¬ (j : Int) < (cd.hs.length : Int) := by omega
    rw [hhk, List.drop_of_length_le (by omega)]
    simp only [C.ck_code_gos, T.tv, seval, hjt']
    first | exact ⟨xxd, rfl⟩ | exact xxd
  have hjt' : (j : Int) < (cd.hs.length : Int) := by omega
  have w1 : IntKind.i64.wrap ((j : Int) + 1) = ((j + 1 : Nat) : Int) := by rw [wrap_i64 (by omega) (by omega)]; omega
  obtain ⟨b, o, c', heq, hrd, _⟩ := (hH.ext (by decide) xxd).at hjt
  cases heq
  rw [flatH_at hjt] at hrd
  rw [drop_getD (d := Hnd.zero) hjt, hndK] at hhk
  have hxf := hcf.hs _ (getD_mem (d := Hnd.zero) hjt)
  generalize cd.hs.getD j Hnd.zero = x at *
  have hld := ld_agg T.ag_86 hrd rfl
  simp only [Hnd.cells] at hld
  simp (disch := omega) only [C.ck_code_gos, T.tv, seval, hjt', hld]
  refine eff_alloc_z T.zr_86 ?_
  simp only [T.tv, seval]
  refine eff_store_new_z T.zr_86 rfl rfl rfl (by simp [Value.cells, oneCell]) rfl ?_
  intro h7 x7 _ hrd7 b7
  have c0 : cellAt h7 ⟨hd.size, 0, none⟩ = some (.int .i64 x.from') := hrd7 0 _ rfl
  have c1 : cellAt h7 ⟨hd.size, 1, none⟩ = some (.int .i64 x.to) := hrd7 1 _ rfl
  have c2 : cellAt h7 ⟨hd.size, 2, none⟩ = some (.int .i64 x.target) := hrd7 2 _ rfl
  have c3 : cellAt h7 ⟨hd.size, 3, none⟩ = some (.int .u16 (x.type : Int)) := hrd7 3 _ rfl
  have M7 := (hM.fr hxd _root_.id).fr x7 _root_.id
  have xx7 := xxd.trans x7
  obtain ⟨_, _, _, B7, H7⟩ := key h7 (((x24.trans hx).trans hxd).trans x7)
  have lk := fun a => lk_map mp_jj kJ_key M7 a true
  simp only [if_true, hG.some] at lk
  have l1 : lkE Tryz.prog 95 (.map (some mb)) (.int .i64 x.from') true h7 = _ := lk x.from'
  have l2 : lkE Tryz.prog 95 (.map (some mb)) (.int .i64 x.to) true h7 = _ := lk x.to
  have l3 : lkE Tryz.prog 95 (.map (some mb)) (.int .i64 x.target) true h7 = _ := lk x.target
  clear hld hrd hrd7 b7
  generalize hd.size = qh at *
  unfold badH at hhk
  have bad : ∀ {B : Bool}, B = true → (16, (j : Int)) = (if B = true then (16, (j : Int)) else if x.type ≠ 0 ∧ (clsOfS c.pool x.type).2 = false then (7, (j : Int)) else hndK c.pool ats (cd.bytes.length : Int) (j + 1) (cd.hs.drop (j + 1))) := fun h => by rw [if_pos h]
  generalize (G x.from').getD (.int .i64 0) = v1 at l1
  generalize (G x.to).getD (.int .i64 0) = v2 at l2
  by_cases p1 : x.from' ∈ ats ∨ x.from' = (cd.bytes.length : Int)
  case neg =>
    rw [hhk, ← bad (by rw [decide_eq_false p1]; rfl)]
    rw [decide_eq_false p1] at l1
    simp only [C.ck_code_gos, T.tv, seval, c0, c1, c2, l1, l2, l3]
    exact xx7
  rw [decide_eq_true p1] at l1 hhk
  by_cases p2 : x.to ∈ ats ∨ x.to = (cd.bytes.length : Int)
  case neg =>
    rw [hhk, ← bad (by rw [decide_eq_false p2]; rfl)]
    rw [decide_eq_false p2] at l2
    simp only [C.ck_code_gos, T.tv, seval, c0, c1, c2, l1, l2, l3]
    exact xx7
  rw [decide_eq_true p2] at l2 hhk
  by_cases p3 : x.target ∈ ats
  case neg =>
    rw [hhk, ← bad (by rw [decide_eq_false p3]; rfl)]
    by_cases pL : x.target = (cd.bytes.length : Int)
    · rw [decide_eq_true (.inr pL), pL, hG.h2, Option.getD_some] at l3
      rw [pL] at c2
      simp only [C.ck_code_gos, T.tv, seval, c0, c1, c2, l1, l2, l3, va]
      exact xx7
    · rw [decide_eq_false (by simp [p3, pL])] at l3
      generalize (G x.target).getD (.int .i64 0) = v3 at l3
      simp only [C.ck_code_gos, T.tv, seval, c0, c1, c2, l1, l2, l3]
      exact xx7
  obtain ⟨n, _, hn⟩ := hG.h1 x.target p3
  rw [decide_eq_true (.inl p3), hn, Option.getD_some] at l3
  rw [decide_eq_true p3] at hhk
  by_cases p4 : x.from' < x.to
  case neg =>
    rw [hhk, ← bad (by rw [decide_eq_false p4]; rfl)]
    simp (disch := omega) only [C.ck_code_gos, T.tv, seval, c0, c1, c2, l1, l2, l3, va]
    exact xx7
  rw [decide_eq_true p4, if_neg (by decide)] at hhk
  have bl := B7.l
  simp (disch := omega) only [C.ck_code_gos, T.tv, seval, c0, c1, c2, c3, l1, l2, l3, bl, va]
  refine eff_callF rfl ((ckclass_any H7 F x.type hxf.type).mono ?_)
  rintro v9 h9 ⟨x9, rfl⟩
  have c3' := cell_ext x9 c3
  have nxt := (hxd.trans x7).trans x9
  have xx9 := xx7.trans x9
  cases hkk : (clsOfS c.pool x.type).2 with
  | true =>
    rw [hkk, if_neg (by simp)] at hhk
    simp only [C.ck_code_gos, T.tv, seval, w1]
    exact ⟨cd.hs.length - (j + 1), by omega, j + 1, rfl, by omega, rfl, nxt, hhk⟩
  | false =>
    rw [hkk] at hhk
    by_cases t0 : x.type = 0
    · rw [if_neg (by simp [t0])] at hhk
      simp (disch := omega) only [C.ck_code_gos, T.tv, seval, c3', w1, va]
      exact ⟨cd.hs.length - (j + 1), by omega, j + 1, rfl, by omega, rfl, nxt, hhk⟩
    · rw [if_pos ⟨t0, rfl⟩] at hhk
      rw [hhk]
      simp (disch := omega) only [C.ck_code_gos, T.tv, seval, c3', va]
      exact xx9
end
end Go.Proofs.YtflocjbhcjhenaaGreatDoor
namespace Go.Proofs.YtflocjbhcjhenaaGreatDoor
open Go.Vc
set_option maxRecDepth 100000
def argsP (fl : Nat) (nd : List UInt8) : Nat := slotsP (mT nd) + (if fl &&& 8 = 0 then 1 else 0)
def endK (p : List Cst) (m : Mth) (nd : List UInt8) : Int × Int := if m.code.maxL < ((argsP m.flags nd : Nat) : Int) then (12, 0) else codK p m.code
def mthK (fl : Nat) (p : List Cst) (seen : List TT) (m : Mth) : Int × Int :=
  if isS p m.name 1 = false ∨ isS p m.type 1 = false then (7, 0)
  else if memP (strS p m.name) true = 0 then (8, 0)
  else if (methP (strS p m.type)).isSome = false ∨ (memP (strS p m.name) true = 2 ∧ mG (strS p m.type) ≠ [86]) ∨ (memP (strS p m.name) true = 3 ∧ strS p m.type ≠ [40, 41, 86]) then (9, 0)
  else if mflK fl m.flags (memP (strS p m.name) true) = false then (10, 0)
  else if (strS p m.name, strS p m.type) ∈ seen then (11, 0)
  else if decide (m.flags &&& 1280 ≠ 0) = m.has then (13, 0)
  else if m.flags &&& 1280 ≠ 0 then (0, 0)
  else endK p m (strS p m.type)
abbrev mthO (m : Mth) (vH : Value) : Obj := .cells #[.int .u16 (m.flags : Int), .int .u16 (m.name : Int), .int .u16 (m.type : Int), .bool m.has, .int .i64 m.code.maxS, .int .i64 m.code.maxL, str m.code.bytes, vH, str m.code.map] 43
abbrev mthA (m : Mth) (vH : Value) : Value := .agg #[.int .u16 (m.flags : Int), .int .u16 (m.name : Int), .int .u16 (m.type : Int), .bool m.has, .int .i64 m.code.maxS, .int .i64 m.code.maxL, str m.code.bytes, vH, str m.code.map]
section
variable {h0 h : Heap} {g mb : Nat} {c : Cls} {vp vi vf vm : Value} {seen : List TT}
def MthR (h0 : Heap) (mb : Nat) (seen : List TT) (k : TT) (e : Int × Int) (v : Value) (h' : Heap) : Prop :=
  Ext h0 h' ∧ v = .tuple #[.int .i64 e.1, .int .i64 e.2] ∧ (e.1 = 0 → MapO kP h' mb (cntF (seen ++ [k])))
set_option maxHeartbeats 8000000 in
theorem method_tail {q q2 : Nat} {a9 : Option Addr} {c9 : Nat} {vH u0 u1 u2 u8 u9 u10 u11 u12 u14 u15 u16 u46 u53 u56 u75 u82 u87 u92 : Value} {k : TT} (m : Mth) (nd : List UInt8) (X : Ext h0 h) (B : Bx h q g) (qc : h[q2]? = some (mthO m vH)) (H : CB h g c vp vi vf vm) (F : CF c)
    (hmf : m.Fit) (hH : SlN h 4 vH m.code.hs.length (flatH m.code.hs)) (hbl : m.code.bytes.length ≤ 1073741824) (hhl : m.code.hs.length ≤ 1073741824) (lb : nd.length ≤ 4294967296)
    (hsv : Sl h (.slice a9 (mT nd).length c9) ((mT nd).map str)) (HM : MapO kP h mb (cntF (seen ++ [k]))) :
    Cd.vc Tryz.prog C.ck_method_t0 (retQ Tryz.prog [(6, none), (7, none)] (MthR h0 mb seen k (endK c.pool m nd)))
      [(0, u0), (1, u1), (2, u2), (3, .pointer (some ⟨q, 0, none⟩)), (4, .pointer (some ⟨q2, 0, none⟩)), (6, .int .i64 0), (7, .int .i64 0), (8, u8), (9, u9), (10, u10), (11, u11), (12, u12), (13, .slice a9 (mT nd).length c9), (14, u14), (15, u15), (16, u16), (17, undef), (19, undef), (46, u46), (53, u53), (56, u56), (75, u75), (82, u82), (87, u87), (92, u92), (94, undef), (95, undef), (96, undef), (97, undef), (108, undef), (115, undef)] h := by
  rw [C.ck_method_t0_go]
  have hml := mT_len nd
  unfold endK argsP
  generalize mT nd = ts at *
  have c0 : cellAt h ⟨q2, 0, none⟩ = some (.int .u16 (m.flags : Int)) := by rw [cellAt_of qc]; rfl
  have c5 : cellAt h ⟨q2, 5, none⟩ = some (.int .i64 m.code.maxL) := by rw [cellAt_of qc]; rfl
  have hrd := Rd_block (vs := [.int .u16 (m.flags : Int), .int .u16 (m.name : Int), .int .u16 (m.type : Int), .bool m.has, .int .i64 m.code.maxS, .int .i64 m.code.maxL, str m.code.bytes, vH, str m.code.map]) qc
  have hrc : Rd h q2 4 [.int .i64 m.code.maxS, .int .i64 m.code.maxL, str m.code.bytes, vH, str m.code.map] := by
    intro j v hv
    have := hrd (4 + j) v (by
      rw [show 4 + j = j + 4 by omega]
      simpa using hv)
    simpa using this
  have hld := ld_agg T.ag_41 hrc rfl
  have a8 : bitsV .and .u16 (m.flags : Int) 8 = ((m.flags &&& 8 : Nat) : Int) := and16 _ 8 hmf.flags (by decide)
  have bl := B.l
  simp only [C.ck_method_gos, T.tv, seval]
  refine loop_intro [3, 4, 17, 94, 95, 96] (fun m ρ hc => ∃ i : Nat, m = ts.length - i ∧ i ≤ ts.length ∧
    ρ = [(3, .pointer (some ⟨q, 0, none⟩)), (4, .pointer (some ⟨q2, 0, none⟩)), (17, .int .i64 ((slotsP (ts.take i) : Nat) : Int)), (94, .slice a9 ts.length c9), (95, .int .i64 (ts.length : Int)), (96, .int .i64 (i : Int))] ∧ hc = h) ?_ ?_
  · simp only [T.tv, seval]
    exact ⟨_, 0, rfl, Nat.zero_le _, rfl⟩
  rintro m' ρ hc ⟨i, rfl, hi, rfl, rfl⟩
  have hsl := slotsP_take (ts := ts) i
  by_cases hlt : i < ts.length
  · have hlt' : (i : Int) < (ts.length : Int) := by omega
    obtain ⟨b1, o1, c1', heq1, _, hcell1⟩ := hsv.at (i := i) (by simpa using hlt)
    rw [List.length_map] at heq1
    cases heq1
    have e1 : cellAt hc ⟨b1, o1 + i, none⟩ = some (str (ts.getD i [])) := by rw [hcell1]; simp [hlt]
    have hst : ts.take (i + 1) = ts.take i ++ [ts.getD i []] := take_getD hlt
    generalize ts.getD i [] = t at *
    have hsp := slotP_le t
    have w1 : IntKind.i64.wrap ((i : Int) + 1) = ((i + 1 : Nat) : Int) := by rw [wrap_i64 (by omega) (by omega)]; omega
    have w2 : IntKind.i64.wrap (((slotsP (ts.take i) : Nat) : Int) + (slotP t : Int)) = ((slotsP (ts.take (i + 1)) : Nat) : Int) := by
      rw [hst, slotsP_snoc, wrap_i64 (by omega) (by omega)]; omega
    simp (disch := omega) only [C.ck_method_gos, T.tv, seval, hlt', e1]
    refine eff_callF rfl ((slots_any t).mono ?_)
    rintro v9 h9 ⟨rfl, rfl⟩
    simp only [C.ck_method_gos, T.tv, seval, w1, w2]
    exact ⟨ts.length - (i + 1), by omega, i + 1, rfl, by omega, rfl⟩
  have hlt' : ¬ (i : Int) < (ts.length : Int) := by omega
  rw [List.take_of_length_le (show ts.length ≤ i by omega)] at hsl ⊢
  have w3 : IntKind.i64.wrap (((slotsP ts : Nat) : Int) + 1) = ((slotsP ts + 1 : Nat) : Int) := by rw [wrap_i64 (by omega) (by omega)]; omega
  generalize m.flags &&& 8 = f8 at *
  by_cases z8 : f8 = 0
  · rw [if_pos z8]
    by_cases hmx : m.code.maxL < ((slotsP ts + 1 : Nat) : Int)
    · rw [if_pos hmx]
      simp (disch := omega) only [C.ck_method_gos, T.tv, seval, hlt', c0, a8, w3, c5, hmx, va]
      exact ⟨X, rfl, fun h => absurd h (by decide)⟩
    · rw [if_neg hmx]
      simp (disch := omega) only [C.ck_method_gos, T.tv, seval, hlt', c0, a8, w3, c5, hmx, bl, hld, va]
      obtain ⟨_, ah, ch, rfl, _⟩ := id hH
      refine eff_callF rfl ((ckcode_any H F m.code hmf.code hH hbl hhl).mono ?_)
      rintro v5 h5 ⟨x5, rfl⟩
      simp only [T.tv, seval]
      exact ⟨X.trans x5, rfl, fun _ => HM.fr x5 _root_.id⟩
  · rw [if_neg z8, Nat.add_zero]
    by_cases hmx : m.code.maxL < ((slotsP ts : Nat) : Int)
    · rw [if_pos hmx]
      simp (disch := omega) only [C.ck_method_gos, T.tv, seval, hlt', c0, a8, c5, hmx, va]
      exact ⟨X, rfl, fun h => absurd h (by decide)⟩
    · rw [if_neg hmx]
      simp (disch := omega) only [C.ck_method_gos, T.tv, seval, hlt', c0, a8, c5, hmx, bl, hld, va]
      obtain ⟨_, ah, ch, rfl, _⟩ := id hH
      refine eff_callF rfl ((ckcode_any H F m.code hmf.code hH hbl hhl).mono ?_)
      rintro v5 h5 ⟨x5, rfl⟩
      simp only [T.tv, seval]
      exact ⟨X.trans x5, rfl, fun _ => HM.fr x5 _root_.id⟩
end
end Go.Proofs.YtflocjbhcjhenaaGreatDoor

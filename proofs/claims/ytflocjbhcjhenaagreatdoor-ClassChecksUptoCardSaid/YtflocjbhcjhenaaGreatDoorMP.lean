/- Constants and class names of a pool, by index. -/
import Derived.Test.YtflocjbhcjhenaaGreatDoorPa
import Derived.Test.YtflocjbhcjhenaaGreatDoorCA
set_option linter.unusedSimpArgs false
set_option linter.unusedVariables false
namespace Go.Proofs.YtflocjbhcjhenaaGreatDoor
open Go.Vc
set_option maxRecDepth 100000
def isS (p : List Cst) (k tag : Nat) : Bool := decide (k < p.length) && (decide (0 < k) && decide ((p.getD k Cst.zero).tag = tag))
section
variable {h : Heap} {p : List Cst} {vp : Value}
theorem is_any (k tag : Nat) (hk : k < 65536) (hs : SlN h 5 vp p.length (flatS p)) :
    HCalls Tryz.prog 49 #[vp, .int .u16 k, .int .u8 tag] h fun v h' => h' = h ∧ v = .bool (isS p k tag) := by
  refine C.pool_Is_calls (args := [vp, .int .u16 k, .int .u8 tag]) rfl ?_
  have hs' := hs
  obtain ⟨_, a, c, rfl, _⟩ := hs'
  have hw : IntKind.i64.wrap (k : Int) = (k : Int) := wrap_i64 (by omega) (by omega)
  unfold isS
  by_cases h1 : k < p.length
  · have h1' : (k : Int) < p.length := by omega
    by_cases h2 : 0 < k
    · have h2' : (0 : Int) < k := by omega
      obtain ⟨b, o, c', heq, hrd, _⟩ := hs.at h1
      cases heq
      rw [flatS_at h1] at hrd
      generalize p.getD k Cst.zero = x at *
      have c0 : cellAt h ⟨b, o + k * 5, none⟩ = some (.int .u8 (x.tag : Int)) := hrd 0 _ rfl
      have e : decide ((x.tag : Int) = (tag : Int)) = decide (x.tag = tag) := decide_eq_decide.2 (by omega)
      simp (disch := omega) only [C.pool_Is_gos, T.tv, seval, hw, h1', h2', c0, e]
      simp [h1, h2]
    · have h2' : ¬ (0 : Int) < k := by omega
      simp only [C.pool_Is_gos, T.tv, seval, hw, h1', h2']
      simp [h1, h2]
  · have h1' : ¬ (k : Int) < p.length := by omega
    simp only [C.pool_Is_gos, T.tv, seval, hw, h1']
    simp [h1]
theorem string_any (k : Nat) (hk : k < 65536) (hs : SlN h 5 vp p.length (flatS p)) :
    HCalls Tryz.prog 48 #[vp, .int .u16 k] h fun v h' => h' = h ∧ v = str (if isS p k 1 = true then (p.getD k Cst.zero).text else []) := by
  refine C.pool_String_calls (args := [vp, .int .u16 k]) rfl ?_
  simp only [C.pool_String_gos, T.tv, seval]
  refine eff_callF rfl ((is_any k 1 hk hs).mono ?_)
  rintro v1 h1 ⟨rfl, rfl⟩
  by_cases hi : isS p k 1 = true
  · have h1 : k < p.length := by
      unfold isS at hi
      simp at hi
      exact hi.1
    have h1' : (k : Int) < p.length := by omega
    obtain ⟨b, o, c', rfl, hrd, _⟩ := hs.at h1
    rw [flatS_at h1] at hrd
    rw [if_pos hi, hi]
    generalize p.getD k Cst.zero = x at *
    have c1 : cellAt _ ⟨b, o + k * 5 + 1, none⟩ = some (str x.text) := hrd 1 _ rfl
    simp (disch := omega) only [C.pool_String_gos, T.tv, seval, c1]
  · have hi' : isS p k 1 = false := by simpa using hi
    rw [if_neg hi, hi']
    simp only [C.pool_String_gos, T.tv, seval]
theorem ris_any (k tag : Nat) (hs : SlN h 5 vp p.length (flatS p)) :
    HCalls Tryz.prog 39 #[vp, .int .i64 k, .int .u8 tag] h fun v h' => h' = h ∧ v = .bool (isS p k tag) := by
  refine C.ref1_Is_calls (args := [vp, .int .i64 k, .int .u8 tag]) rfl ?_
  have hs' := hs
  obtain ⟨_, a, c, rfl, _⟩ := hs'
  unfold isS
  by_cases h2 : 0 < k
  · have h2' : (0 : Int) < k := by omega
    by_cases h1 : k < p.length
    · have h1' : (k : Int) < p.length := by omega
      obtain ⟨b, o, c', heq, hrd, _⟩ := hs.at h1
      cases heq
      rw [flatS_at h1] at hrd
      generalize p.getD k Cst.zero = x at *
      have c0 : cellAt h ⟨b, o + k * 5, none⟩ = some (.int .u8 (x.tag : Int)) := hrd 0 _ rfl
      have e : decide ((x.tag : Int) = (tag : Int)) = decide (x.tag = tag) := decide_eq_decide.2 (by omega)
      simp (disch := omega) only [C.ref1_Is_gos, T.tv, seval, h1', h2', c0, e]
      simp [h1, h2]
    · have h1' : ¬ (k : Int) < p.length := by omega
      simp only [C.ref1_Is_gos, T.tv, seval, h1', h2']
      simp [h1]
  · have h2' : ¬ (0 : Int) < k := by omega
    simp only [C.ref1_Is_gos, T.tv, seval, h2']
    simp [h2]
theorem rstring_any (k : Nat) (hs : SlN h 5 vp p.length (flatS p)) :
    HCalls Tryz.prog 57 #[vp, .int .i64 k] h fun v h' => h' = h ∧ v = .tuple #[str (if isS p k 1 = true then (p.getD k Cst.zero).text else []), .bool (isS p k 1)] := by
  refine C.ref1_String_calls (args := [vp, .int .i64 k]) rfl ?_
  simp only [C.ref1_String_gos, T.tv, seval]
  refine eff_callF rfl ((ris_any k 1 hs).mono ?_)
  rintro v1 h1 ⟨rfl, rfl⟩
  by_cases hi : isS p k 1 = true
  · have h1 : k < p.length := by
      unfold isS at hi
      simp at hi
      exact hi.1
    have h1' : (k : Int) < p.length := by omega
    obtain ⟨b, o, c', rfl, hrd, _⟩ := hs.at h1
    rw [flatS_at h1] at hrd
    rw [if_pos hi, hi]
    generalize p.getD k Cst.zero = x at *
    have c1 : cellAt _ ⟨b, o + k * 5 + 1, none⟩ = some (str x.text) := hrd 1 _ rfl
    simp (disch := omega) only [C.ref1_String_gos, T.tv, seval, c1]
  · have hi' : isS p k 1 = false := by simpa using hi
    rw [if_neg hi, hi']
    simp only [C.ref1_String_gos, T.tv, seval]
def clsOfS (p : List Cst) (k : Nat) : List UInt8 × Bool :=
  if isS p k 7 = true then (if isS p (p.getD k Cst.zero).a 1 = true then (p.getD (p.getD k Cst.zero).a Cst.zero).text else [], isS p (p.getD k Cst.zero).a 1) else ([], false)
theorem classOf_any (k : Nat) (hf : ∀ c ∈ p, c.Fit) (hs : SlN h 5 vp p.length (flatS p)) :
    HCalls Tryz.prog 61 #[vp, .int .i64 k] h fun v h' => h' = h ∧ v = .tuple #[str (clsOfS p k).1, .bool (clsOfS p k).2] := by
  refine C.ref1_ClassOf_calls (args := [vp, .int .i64 k]) rfl ?_
  simp only [C.ref1_ClassOf_gos, T.tv, seval]
  refine eff_callF rfl ((ris_any k 7 hs).mono ?_)
  rintro v1 h1 ⟨rfl, rfl⟩
  unfold clsOfS
  by_cases hi : isS p k 7 = true
  · have h1 : k < p.length := by
      unfold isS at hi
      simp at hi
      exact hi.1
    have h1' : (k : Int) < p.length := by omega
    have hs' := hs
    obtain ⟨b, o, c', rfl, hrd, _⟩ := hs'.at h1
    rw [flatS_at h1] at hrd
    have hfa : (p.getD k Cst.zero).a < 65536 := (hf _ (by simp [h1])).a
    rw [if_pos hi, hi]
    generalize p.getD k Cst.zero = x at *
    have c3 : cellAt _ ⟨b, o + k * 5 + 3, none⟩ = some (.int .u16 (x.a : Int)) := hrd 3 _ rfl
    have hw : IntKind.i64.wrap (x.a : Int) = (x.a : Int) := wrap_i64 (by omega) (by omega)
    simp (disch := omega) only [C.ref1_ClassOf_gos, T.tv, seval, c3, hw]
    refine eff_callF rfl ((rstring_any x.a hs).mono ?_)
    rintro v2 h2 ⟨rfl, rfl⟩
    simp only [T.tv, seval]
  · have hi' : isS p k 7 = false := by simpa using hi
    rw [if_neg hi, hi']
    simp only [C.ref1_ClassOf_gos, T.tv, seval]
end
end Go.Proofs.YtflocjbhcjhenaaGreatDoor

/- What Method gives, in three parts. No condition. -/
import Derived.Test.YtgdmoimclelfhaaDoorDF
namespace Go.Proofs.YtgdmoimclelfhaaDoor
open Go.Vc
set_option maxRecDepth 100000
set_option linter.unusedSimpArgs false
set_option linter.unusedVariables false

/-! ### What Method gives, in three parts -/
def mT (s : List UInt8) : List (List UInt8) := match methP s with
  | none => []
  | some x => x.1
def mG (s : List UInt8) : List UInt8 := match methP s with
  | none => []
  | some x => x.2
theorem MethV_parts {s : List UInt8} {v : Value} {h : Heap} (H : MethV s v h) : ∃ sv, v = .tuple #[sv, str (mG s), .bool (methP s).isSome] ∧ Sl h sv ((mT s).map str) := by
  unfold MethV at H
  unfold mG mT
  cases hm : methP s with
  | none =>
    rw [hm] at H
    exact ⟨_, H, none, 0, rfl, .inl rfl⟩
  | some x =>
    rw [hm] at H
    obtain ⟨sv, rfl, hs⟩ := H
    exact ⟨sv, rfl, hs⟩
theorem runP_len : ∀ {f : Nat} {l : List UInt8} {ts : List (List UInt8)} {sl : Nat} {ts' : List (List UInt8)} {sl' : Nat} {l' : List UInt8},
    runP f l ts sl = some (ts', sl', l') → ts'.length ≤ ts.length + l.length
  | 0, _, _, _, _, _, _, h => by cases h
  | f + 1, l, ts, sl, ts', sl', l', h => by
    rw [runP] at h
    split at h
    · cases h; omega
    · cases ho : oneP l 0 with
      | none => rw [ho] at h; cases h
      | some m =>
        rw [ho] at h
        have h1 := runP_len h
        have h2 := oneP_le ho
        rw [List.length_append, List.length_singleton, List.length_drop] at h1
        omega
theorem mT_len (s : List UInt8) : (mT s).length ≤ s.length := by
  unfold mT
  cases hm : methP s with
  | none => simp
  | some x =>
    obtain ⟨ts, g⟩ := x
    unfold methP at hm
    split at hm
    · cases hr : runP s.length (s.drop 1) [] 0 with
      | none => rw [hr] at hm; cases hm
      | some y =>
        obtain ⟨ts', sl', l'⟩ := y
        rw [hr] at hm
        unfold methE at hm
        simp only [] at hm
        split at hm
        · cases hm
        · cases hm
          have := runP_len hr
          rw [List.length_drop, List.length_nil] at this
          simp only []
          omega
    · cases hm
theorem mT_text {s : List UInt8} (h : (methP s).isSome = true) : [40] ++ (mT s).flatten ++ [41] ++ mG s = s := by
  cases hm : methP s with
  | none => rw [hm] at h; cases h
  | some x =>
    obtain ⟨ts, g⟩ := x
    have := methP_text hm
    unfold mT mG
    rw [hm]
    exact this
theorem mT_flat (s : List UInt8) : (mT s).flatten.length ≤ s.length := by
  cases hm : methP s with
  | none => unfold mT; rw [hm]; simp
  | some x =>
    have := congrArg List.length (mT_text (s := s) (by rw [hm]; rfl))
    simp only [List.length_append] at this
    omega
theorem take_flat (ts : List (List UInt8)) (i : Nat) : (ts.take i).flatten.length ≤ ts.flatten.length := by
  conv => rhs; rw [← List.take_append_drop i ts, List.flatten_append, List.length_append]
  omega
end Go.Proofs.YtgdmoimclelfhaaDoor

/- The reader of bytes (pool.Reader): what each of its functions does. -/
import Derived.Test.YtohkbpnblkkdgaaPa
import Derived.Test.YtohkbpnblkkdgaaT
import Derived.Test.YtohkbpnblkkdgaaVcS
import Derived.Test.YtohkbpnblkkdgaaCf
namespace Go.Proofs.Ytohkbpnblkkdgaa
open Go.Vc
set_option maxRecDepth 100000
set_option linter.unusedSimpArgs false
set_option linter.unusedVariables false

/-- A reader's state: how far it is read; the error; its place. -/
structure RS where
  p : Nat
  e : Nat
  es : Nat
def failS (e q : Nat) (s : RS) : RS := if s.e = 0 then ⟨s.p, e, q⟩ else s
def takeS (l : List UInt8) (n : Nat) (s : RS) : List UInt8 × RS :=
  if s.e ≠ 0 then ([], s) else if l.length < s.p + n then ([], ⟨s.p, 1, l.length⟩) else ((l.drop s.p).take n, ⟨s.p + n, 0, s.es⟩)
def numB (l : List UInt8) : Nat := l.foldl (fun x b => x * 256 + b.toNat) 0
def numS (l : List UInt8) (n : Nat) (s : RS) : Nat × RS := (numB (takeS l n s).1, (takeS l n s).2)
def Rdr (h : Heap) (g : Nat) (l : List UInt8) (s : RS) : Prop :=
  h[g]? = some (.cells #[str l, .int .i64 s.p, .int .i64 s.e, .int .i64 s.es] 120 (0, 0)) ∧ s.p ≤ l.length

theorem numB_append (a : List UInt8) (b : UInt8) : numB (a ++ [b]) = numB a * 256 + b.toNat := by simp [numB]
theorem numB_lt (l : List UInt8) : numB l < 256 ^ l.length := by
  suffices H : ∀ (k : Nat) (l : List UInt8), l.length = k → numB l < 256 ^ l.length from H _ l rfl
  intro k
  induction k with
  | zero => intro l hl; have := List.length_eq_zero_iff.1 hl; subst this; decide
  | succ k ih =>
    intro l hl
    obtain ⟨a, b, rfl⟩ : ∃ a b, l = a ++ [b] := by
      rcases List.eq_nil_or_concat l with h | ⟨a, b, h⟩
      · subst h; simp at hl
      · exact ⟨a, b, by simpa using h⟩
    have h1 : a.length = k := by simpa using hl
    have h2 := ih a h1
    have h3 := UInt8.toNat_lt b
    simp only [Nat.reducePow] at h3
    rw [numB_append, List.length_append, List.length_singleton, Nat.pow_succ]
    omega
theorem takeS_len {l : List UInt8} {n : Nat} {s : RS} : (takeS l n s).1.length ≤ n := by
  unfold takeS; split
  · simp
  · split
    · simp
    · simp; omega
theorem numS_lt {l : List UInt8} {n : Nat} {s : RS} : (numS l n s).1 < 256 ^ n := Nat.lt_of_lt_of_le (numB_lt _) (Nat.pow_le_pow_right (by decide) takeS_len)

section
variable {h : Heap} {g : Nat} {l : List UInt8} {s : RS}
theorem Rdr.lt (H : Rdr h g l s) : g < h.size := (Array.getElem?_eq_some_iff.1 H.1).1
theorem Rdr.c0 (H : Rdr h g l s) : cellAt h ⟨g, 0, none⟩ = some (str l) := by rw [cellAt_of H.1]; rfl
theorem Rdr.c1 (H : Rdr h g l s) : cellAt h ⟨g, 1, none⟩ = some (.int .i64 (s.p : Int)) := by rw [cellAt_of H.1]; rfl
theorem Rdr.c2 (H : Rdr h g l s) : cellAt h ⟨g, 2, none⟩ = some (.int .i64 (s.e : Int)) := by rw [cellAt_of H.1]; rfl
theorem Rdr.c3 (H : Rdr h g l s) : cellAt h ⟨g, 3, none⟩ = some (.int .i64 (s.es : Int)) := by rw [cellAt_of H.1]; rfl
theorem Rdr.fr {S : Nat → Prop} {h' : Heap} (H : Rdr h g l s) (hf : Fr S h h') (hS : ¬ S g) : Rdr h' g l s := ⟨by rw [hf.same g H.lt hS, H.1], H.2⟩
end
end Go.Proofs.Ytohkbpnblkkdgaa

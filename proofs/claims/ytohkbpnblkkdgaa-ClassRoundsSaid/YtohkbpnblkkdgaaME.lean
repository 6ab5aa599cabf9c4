/- Numbers as bytes, errors in turn, blocks that are kept. -/
import Derived.Test.YtohkbpnblkkdgaaB0
namespace Go.Proofs.Ytohkbpnblkkdgaa
open Go.Vc
set_option maxRecDepth 100000
set_option linter.unusedSimpArgs false
set_option linter.unusedVariables false

def atU (x : Int) : Nat := (IntKind.u64.wrap x).toNat
theorem atU_wrap (x : Int) : IntKind.u64.wrap x = ((atU x : Nat) : Int) ∧ atU x < 18446744073709551616 := by
  have h : 0 ≤ IntKind.u64.wrap x ∧ IntKind.u64.wrap x < 18446744073709551616 := by
    simp only [IntKind.wrap, IntKind.signed, IntKind.bits]
    first | (simp; omega) | omega
  unfold atU
  omega
theorem atU_nat {x : Nat} (h : x < 18446744073709551616) : atU (x : Int) = x := by
  unfold atU; rw [wrap_u64 (by omega) (by omega)]; omega
def KeepB (h h' : Heap) (g : Nat) : Prop := h.size ≤ h'.size ∧ ∀ c cs e fz, c ≠ g → e ≠ 5 → h[c]? = some (.cells cs e fz) → h'[c]? = some (.cells cs e fz)
theorem KeepB.refl (h : Heap) (g : Nat) : KeepB h h g := ⟨Nat.le_refl _, fun _ _ _ _ _ _ h => h⟩
theorem KeepB.trans {a b c : Heap} {g : Nat} (H : KeepB a b g) (K : KeepB b c g) : KeepB a c g := ⟨Nat.le_trans H.1 K.1, fun _ _ _ _ h1 h2 h3 => K.2 _ _ _ _ h1 h2 (H.2 _ _ _ _ h1 h2 h3)⟩
theorem KeepB.ext {h h' : Heap} {g : Nat} (H : Ext h h') : KeepB h h' g := ⟨H.size, fun _ _ _ _ _ _ h3 => Fr_blk H h3 id⟩
theorem KeepB.blk {h h' : Heap} {g c : Nat} {cs : Array Value} {t : TypeId} {fz : Nat × Nat} (H : KeepB h h' g) (hb : h[c]? = some (.cells cs t fz)) (hne : c ≠ g) (ht : t ≠ 5) : h'[c]? = some (.cells cs t fz) := H.2 _ _ _ _ hne ht hb
def thenE (e q : Nat) : Nat := if e = 0 then q else e
theorem thenE_zero (e : Nat) : thenE e 0 = e := by unfold thenE; split <;> omega
theorem thenE_assoc (a b c : Nat) : thenE (thenE a b) c = thenE a (thenE b c) := by unfold thenE; split <;> simp_all
theorem bigS_one (x : Nat) : bigS x 1 = [UInt8.ofNat (x % 256)] := by simp [bigS, List.range_succ]
end Go.Proofs.Ytohkbpnblkkdgaa

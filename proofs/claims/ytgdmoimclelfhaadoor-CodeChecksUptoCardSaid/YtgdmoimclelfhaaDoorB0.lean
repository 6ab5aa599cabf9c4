/- Helpers on heaps. -/
import Derived.Test.YtgdmoimclelfhaaDoorPc
import Derived.Test.YtgdmoimclelfhaaDoorVcS
namespace Go.Proofs.YtgdmoimclelfhaaDoor
open Go.Vc
set_option maxRecDepth 100000
set_option linter.unusedSimpArgs false
set_option linter.unusedVariables false

theorem Own_ne {h : Heap} {base : Nat} {e e' : TypeId} {size n b : Nat} {v : Value} {xs : List Value} {cs : Array Value} {fz : Nat × Nat} (H : Own h base e size v n xs) (hb : h[b]? = some (.cells cs e' fz)) (hne : e ≠ e') : ¬ v.ownBlock = some b := by
  intro hk
  rcases H.2 with ⟨rfl, _⟩ | ⟨g, cap, cur, fz', rfl, _, hg, _⟩
  · simp [Value.ownBlock] at hk
  · simp [Value.ownBlock] at hk
    subst hk
    rw [hg] at hb
    cases hb
    exact hne rfl
theorem Fr_blk {S : Nat → Prop} {h h' : Heap} (H : Fr S h h') {b : Nat} {o : Obj} (hb : h[b]? = some o) (hS : ¬ S b) : h'[b]? = some o := by
  rw [H.same b (Array.getElem?_eq_some_iff.1 hb).1 hS, hb]
theorem Own_cast {h : Heap} {base : Nat} {e : TypeId} {size n n' : Nat} {v : Value} {xs xs' : List Value} (H : Own h base e size v n xs) (hn : n = n') (hx : xs = xs') : Own h base e size v n' xs' := hn ▸ hx ▸ H
theorem push_blk {h : Heap} {b : Nat} {o o' : Obj} (hb : h[b]? = some o) : (h.push o')[b]? = some o := Fr_blk (Ext.push h o') hb id

end Go.Proofs.YtgdmoimclelfhaaDoor

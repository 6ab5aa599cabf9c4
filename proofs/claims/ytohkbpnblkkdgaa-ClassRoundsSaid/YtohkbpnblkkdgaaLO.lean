/- Rows of a class's lists; their cells are single values (plain). -/
import Derived.Test.YtohkbpnblkkdgaaLP
import Derived.Test.YtohkbpnblkkdgaaB1
namespace Go.Proofs.Ytohkbpnblkkdgaa
open Go.Vc
set_option maxRecDepth 100000
set_option linter.unusedSimpArgs false
set_option linter.unusedVariables false

theorem natV_at {l : List Nat} {i : Nat} (hi : i < l.length) : ((natV l).drop (i * 1)).take 1 = [.int .u16 ((l.getD i 0 : Nat) : Int)] := by
  rw [Nat.mul_one]
  unfold natV
  rw [List.drop_eq_getElem_cons (by simpa using hi)]
  simp [hi]
theorem flatH_at {l : List Hnd} {i : Nat} (hi : i < l.length) : ((flatH l).drop (i * 4)).take 4 = (l.getD i Hnd.zero).cells := flat_at Hnd.cells 4 (fun _ => rfl) Hnd.zero hi
theorem flatF_at {l : List Fld} {i : Nat} (hi : i < l.length) : ((flatF l).drop (i * 4)).take 4 = (l.getD i Fld.zero).cells := flat_at Fld.cells 4 (fun _ => rfl) Fld.zero hi
theorem cell_ext {h h' : Heap} (x : Ext h h') {b j : Nat} {v : Value} (hc : cellAt h ⟨b, j, none⟩ = some v) : cellAt h' ⟨b, j, none⟩ = some v := by
  rw [x.cell (sp := none) (cellAt_lt hc) id]; exact hc
theorem one_flat {α : Type} (f : α → List Value) (hf : ∀ x, ∀ u ∈ f x, oneCell u = true) (l : List α) : ∀ u ∈ l.flatMap f, oneCell u = true := by
  intro u hu
  obtain ⟨x, _, hx⟩ := List.mem_flatMap.1 hu
  exact hf x u hx
theorem one_S (l : List Cst) : ∀ u ∈ flatS l, oneCell u = true := one_flat Cst.cells (fun x u hu => by
  simp only [Cst.cells, List.mem_cons, List.not_mem_nil, or_false] at hu
  rcases hu with rfl | rfl | rfl | rfl | rfl <;> rfl) l
theorem one_F (l : List Fld) : ∀ u ∈ flatF l, oneCell u = true := one_flat Fld.cells (fun x u hu => by
  simp only [Fld.cells, List.mem_cons, List.not_mem_nil, or_false] at hu
  rcases hu with rfl | rfl | rfl | rfl <;> rfl) l
theorem one_H (l : List Hnd) : ∀ u ∈ flatH l, oneCell u = true := one_flat Hnd.cells (fun x u hu => by
  simp only [Hnd.cells, List.mem_cons, List.not_mem_nil, or_false] at hu
  rcases hu with rfl | rfl | rfl | rfl <;> rfl) l
theorem one_N (l : List Nat) : ∀ u ∈ natV l, oneCell u = true := by
  intro u hu
  obtain ⟨x, _, rfl⟩ := List.mem_map.1 hu
  rfl
theorem one_M {m : Mth} {vH : Value} (hv : oneCell vH = true) : ∀ u ∈ MthV m vH, oneCell u = true := by
  intro u hu
  simp only [MthV, CdeV, List.cons_append, List.nil_append, List.mem_cons, List.not_mem_nil, or_false] at hu
  rcases hu with rfl | rfl | rfl | rfl | rfl | rfl | rfl | rfl | rfl <;> first | rfl | exact hv
end Go.Proofs.Ytohkbpnblkkdgaa

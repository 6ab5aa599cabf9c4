/- Regions that draw their order: one canonical order serves every order. No condition. -/
import Derived.Test.YtohkbpnblkkdgaaVcB
namespace Go.Vc
set_option linter.unusedSimpArgs false
set_option linter.unusedVariables false

theorem rd_run {P : Program} {α : Type} (s : Sem α) : ∀ (w : World) (v : α), rd P s w.heap = some v → s.run P w = .ok v w := by
  induction s with
  | pure a => intro w v H; cases H; rfl
  | load m a k ih =>
    intro w v H
    have hc : w.cell? a = cellAt w.heap a := rfl
    simp only [rd] at H
    cases hv : cellAt w.heap a with
    | none => simp [hv] at H
    | some u => simp only [hv] at H; simp only [Sem.run, hc, hv]; exact ih _ _ _ H
  | store m a v k ih => intro w u H; simp [rd] at H
  | new o k ih => intro w u H; simp [rd] at H
  | shape r k ih => intro w u H; exact ih _ _ _ H
  | freeze a n k ih => intro w u H; simp [rd] at H
  | frozen a k ih => intro w u H; exact ih _ _ _ H
  | getObj r k ih =>
    intro w u H
    simp only [rd] at H
    simp only [Sem.run]
    cases ho : w.heap[r]? with
    | none => simp [ho] at H
    | some o => simp only [ho] at H; cases o <;> first | (simp at H; done) | exact ih _ _ _ H
  | setObj r o k ih => intro w u H; simp [rd] at H
  | choose q k ih =>
    intro w u H
    simp only [rd] at H
    simp only [Sem.run]
    by_cases hq : q.forced = true
    · rw [if_pos hq] at H ⊢; exact ih _ _ _ H
    · rw [if_neg hq] at H; cases H
  | sys c k ih => intro w u H; simp [rd] at H
  | program k ih => intro w u H; exact ih _ _ _ H
  | mark m k ih => intro w u H; exact ih _ _ H
  | halt x => intro w u H; simp [rd] at H

/-! ### Meanings that never look at the heap -/

def noHeap {α : Type} : Sem α → Prop
  | .pure _ => True
  | .choose _ k => ∀ n, noHeap (k n)
  | .program k => ∀ p, noHeap (k p)
  | .mark _ k => noHeap k
  | .halt _ => True
  | _ => False

theorem noHeap_bind {α β : Type} (s : Sem α) (f : α → Sem β) (h : noHeap s) (hf : ∀ a, noHeap (f a)) : noHeap (s.bind f) := by
  induction s with
  | pure a => exact hf a
  | choose q k ih => exact fun n => ih n (h n)
  | program k ih => exact fun p => ih p (h p)
  | mark m k ih => exact ih h
  | halt x => trivial
  | _ => exact h.elim
theorem noHeap_bind' {α β : Type} (s : Sem α) (f : α → Sem β) (h : noHeap s) (hf : ∀ a, noHeap (f a)) : noHeap (s >>= f) := noHeap_bind s f h hf
theorem noHeap_pure {α : Type} (a : α) : noHeap (pure a : Sem α) := trivial

theorem rd_noHeap {P : Program} {α : Type} (s : Sem α) (hs : noHeap s) (h h' : Heap) : rd P s h = rd P s h' := by
  induction s with
  | pure a => rfl
  | choose q k ih => simp only [rd]; split <;> first | exact ih _ (hs 0) | rfl
  | program k ih => exact ih P (hs P)
  | mark m k ih => exact ih hs
  | halt x => rfl
  | _ => exact hs.elim

def heapFree : Op → Bool
  | .move _ | .assign _ | .pick .. | .extract .. | .makeFunc .. | .unOp .. | .field .. | .index .. => true
  | _ => false

theorem noHeap_asBool (v : Value) : noHeap (asBool v) := by cases v <;> trivial
theorem noHeap_underlying (t : TypeId) : noHeap (underlying t) := by
  intro p
  show noHeap (match p.underlying t with | some d => pure d | none => stuck "no such type")
  split <;> trivial
theorem noHeap_typeInfo (t : TypeId) : noHeap (typeInfo t) := by
  intro p
  show noHeap (match p.info? t with | some d => pure d | none => stuck "no such type")
  split <;> trivial
theorem noHeap_sizeOf (t : TypeId) : noHeap (sizeOf t) := noHeap_bind' _ _ (noHeap_typeInfo t) fun _ => trivial
theorem noHeap_isAgg (t : TypeId) : noHeap (isAgg t) := noHeap_bind' _ _ (noHeap_underlying t) fun d => by split <;> trivial
theorem noHeap_asAgg (v : Value) : noHeap (asAgg v) := by cases v <;> trivial
theorem noHeap_asIntOf (v : Value) : noHeap (asIntOf v) := by
  unfold asIntOf; split <;> trivial
theorem noHeap_part (t : TypeId) (cs : Array Value) (off : Nat) : noHeap (part t cs off) := by
  refine noHeap_bind' _ _ (noHeap_isAgg t) fun b => ?_
  split
  · exact noHeap_bind' _ _ (noHeap_sizeOf t) fun _ => trivial
  · split <;> trivial
theorem noHeap_boundsPanic {α : Type} (k : IntKind) (x y : Int) (c : BoundsCode) : noHeap (boundsPanic k x y c : Sem α) := by
  have hp : ∀ a b c d, noHeap (runtimePanic (.bounds a b c d) : Sem α) := fun a b c d p => trivial
  unfold boundsPanic
  dsimp only
  split
  · exact noHeap_bind' _ _ (noHeap_bind (choose _) (fun x => Sem.pure (x == 1)) (fun n => trivial) fun _ => trivial) fun _ => hp _ _ _ _
  · exact noHeap_bind' _ _ trivial fun _ => hp _ _ _ _

theorem heapFree_spec {o : Oper} (h : heapFree o.op = true) (f : Operand → Value) : noHeap (execOp f o) := by
  obtain ⟨dst, op, type, pos, after, guard⟩ := o
  cases op <;> simp only [heapFree, Bool.false_eq_true] at h <;> simp only [execOp]
  case move x => trivial
  case assign x => trivial
  case pick c a b => exact noHeap_bind' _ _ (noHeap_asBool _) fun b => by trivial
  case makeFunc fn fs cs => exact noHeap_bind' _ _ trivial fun _ => trivial
  case unOp op t x =>
    refine noHeap_bind' _ _ ?_ fun _ => trivial
    unfold Op.unary
    split <;> first | trivial | (split <;> trivial)
  case field t x i =>
    refine noHeap_bind' _ _ (noHeap_bind' _ _ (noHeap_underlying t) fun d => ?_) fun _ => trivial
    split
    · split
      · exact noHeap_bind' _ _ (noHeap_asAgg _) fun _ => noHeap_part _ _ _
      · trivial
    · trivial
  case index t x i =>
    refine noHeap_bind' _ _ (noHeap_bind' _ _ (noHeap_asIntOf _) fun d => noHeap_bind' _ _ (noHeap_underlying t) fun d' => ?_) fun _ => trivial
    split
    · split
      · exact noHeap_bind' _ _ (noHeap_sizeOf _) fun _ => noHeap_part _ _ _
      · exact noHeap_boundsPanic _ _ _ _
    · split
      · trivial
      · exact noHeap_boundsPanic _ _ _ _
    · trivial
  case extract t ix =>
    refine noHeap_bind' _ _ ?_ fun _ => trivial
    unfold Instr.extract
    split
    · split <;> trivial
    · trivial
end Go.Vc

/- A predicate transformer over heaps for the code of a function: small environments, no tape, no draws; sound for the model's Calls. No condition. Stripping the model's code, the transformer over stripped code, and that it is sound for Calls. No condition. Regions that draw their order: one canonical order serves every order. No condition. The canonical order of a region that draws, and that it serves every order. No condition. Regions that draw: the canonical order serves every order; the whole code; calls. No condition. Every order of a region that draws; the whole code; calls. No condition. Regions whose writers may come up in more than one order: a tree of orders serves every order. No condition. The whole code of a function; calls over heaps out of the transformer. No condition. -/
import Derived.Tactics
import Derived.Orders
import Derived.KernelRfl
import Derived.Laws.Sem
import Derived.Scope
namespace Go.Vc
set_option linter.unusedSimpArgs false
set_option linter.unusedVariables false

abbrev Heap := Array Obj

def cellAt (h : Heap) (a : Addr) : Option Value :=
  match h[a.block]? with
  | some (.cells c _ _) => if a.spot.isSome then none else c[a.off]?
  | _ => none
def shapeAt (h : Heap) (r : Nat) : Option (TypeId × Nat) :=
  match h[r]? with
  | some (.cells c e _) => some (e, c.size)
  | _ => none
def frozenAt (h : Heap) (a : Addr) : Bool :=
  match h[a.block]? with
  | some (.cells _ _ (lo, hi)) => lo ≤ a.off && a.off < hi
  | _ => false
def setAt (h : Heap) (a : Addr) (v : Value) : Heap :=
  h.modify a.block fun
    | .cells c e f => .cells (if a.spot.isSome then c else c.setIfInBounds a.off v) e f
    | o => o
def freezeAt (h : Heap) (a : Addr) (n : Nat) : Heap :=
  if n = 0 then h else
  h.modify a.block fun
    | .cells c e (lo, hi) => .cells c e (if lo == hi then (a.off, a.off + n) else (min lo a.off, max hi (a.off + n)))
    | o => o
def oneCell : Value → Bool
  | .agg _ => false
  | .tuple _ => false
  | _ => true

/-- What a meaning does to the heap, whatever the tape says. -/
def hr (P : Program) {α : Type} : Sem α → Heap → (α → Heap → Prop) → Prop
  | .pure a, h, K => K a h
  | .load _ a k, h, K => match cellAt h a with
    | some v => hr P (k v) h K
    | none => False
  | .store _ a v k, h, K => oneCell v = true ∧ (cellAt h a).isSome = true ∧ frozenAt h a = false ∧ hr P k (setAt h a v) K
  | .new o k, h, K => hr P (k h.size) (h.push o) K
  | .shape r k, h, K => hr P (k (shapeAt h r)) h K
  | .freeze a n k, h, K => hr P k (freezeAt h a n) K
  | .frozen a k, h, K => hr P (k (frozenAt h a)) h K
  | .getObj r k, h, K => match h[r]? with
    | some (.cells ..) => False
    | some o => hr P (k o) h K
    | none => False
  | .setObj r o k, h, K => match h[r]? with
    | some (.cells ..) => False
    | some _ => hr P k (h.setIfInBounds r o) K
    | none => False
  | .choose q k, h, K => ∀ t, hr P (k (if q.forced then 0 else q.cut t)) h K
  | .sys _ _, _, _ => False
  | .program k, h, K => hr P (k P) h K
  | .mark _ k, h, K => hr P k h K
  | .halt _, _, _ => False

/-- What a meaning that only reads yields. -/
def rd (P : Program) {α : Type} : Sem α → Heap → Option α
  | .pure a, _ => some a
  | .load _ a k, h => match cellAt h a with
    | some v => rd P (k v) h
    | none => none
  | .shape r k, h => rd P (k (shapeAt h r)) h
  | .frozen a k, h => rd P (k (frozenAt h a)) h
  | .getObj r k, h => match h[r]? with
    | some (.cells ..) => none
    | some o => rd P (k o) h
    | none => none
  | .choose q k, h => if q.forced then rd P (k 0) h else none
  | .program k, h => rd P (k P) h
  | .mark _ k, h => rd P k h
  | _, _ => none

structure Same (w w' : World) : Prop where
  os : w'.os = w.os
  tape : w'.tape = w.tape
  output : w'.output = w.output

theorem Same.refl (w : World) : Same w w := ⟨rfl, rfl, rfl⟩
theorem Same.trans {a b c : World} (h : Same a b) (k : Same b c) : Same a c := ⟨k.os.trans h.os, k.tape.trans h.tape, k.output.trans h.output⟩

theorem setCell_heap (w : World) (a : Addr) (v : Value) : (w.setCell a v).heap = setAt w.heap a v := rfl

theorem hr_run {P : Program} {α : Type} (s : Sem α) : ∀ (w : World) (K : α → Heap → Prop), hr P s w.heap K →
    ∃ v w', s.run P w = .ok v w' ∧ Same w w' ∧ K v w'.heap := by
  induction s with
  | pure a => intro w K h; exact ⟨a, w, rfl, .refl w, h⟩
  | load m a k ih =>
    intro w K h
    simp only [hr] at h
    have hc : w.cell? a = cellAt w.heap a := rfl
    cases hv : cellAt w.heap a with
    | none => rw [hv] at h; exact h.elim
    | some v =>
      rw [hv] at h
      obtain ⟨u, w', h1, h2, h3⟩ := ih v w K h
      exact ⟨u, w', by simp only [Sem.run, hc, hv]; exact h1, h2, h3⟩
  | store m a v k ih =>
    intro w K h
    obtain ⟨h1, h2, h3, h4⟩ := h
    have hc : w.cell? a = cellAt w.heap a := rfl
    have hf : w.frozen? a = frozenAt w.heap a := rfl
    obtain ⟨u, hu⟩ := Option.isSome_iff_exists.1 h2
    obtain ⟨x, w', r1, r2, r3⟩ := ih (w.setCell a v) K h4
    refine ⟨x, w', ?_, ⟨r2.os, r2.tape, r2.output⟩, r3⟩
    cases v <;> simp [oneCell] at h1 <;> simp only [Sem.run, hc, hu, hf, h3, Bool.false_eq_true, if_false] <;> exact r1
  | new o k ih =>
    intro w K h
    obtain ⟨x, w', r1, r2, r3⟩ := ih w.heap.size { w with heap := w.heap.push o } K h
    exact ⟨x, w', r1, ⟨r2.os, r2.tape, r2.output⟩, r3⟩
  | shape r k ih =>
    intro w K h
    obtain ⟨x, w', r1, r2, r3⟩ := ih (shapeAt w.heap r) w K h
    exact ⟨x, w', r1, r2, r3⟩
  | freeze a n k ih =>
    intro w K h
    have hz : (w.freeze a n).heap = freezeAt w.heap a n := by
      unfold World.freeze freezeAt; split <;> rfl
    have hs : Same w (w.freeze a n) := by unfold World.freeze; split <;> exact ⟨rfl, rfl, rfl⟩
    obtain ⟨x, w', r1, r2, r3⟩ := ih (w.freeze a n) K (by rw [hz]; exact h)
    exact ⟨x, w', r1, hs.trans r2, r3⟩
  | frozen a k ih =>
    intro w K h
    obtain ⟨x, w', r1, r2, r3⟩ := ih (frozenAt w.heap a) w K h
    exact ⟨x, w', r1, r2, r3⟩
  | getObj r k ih =>
    intro w K h
    simp only [hr] at h
    simp only [Sem.run]
    cases ho : w.heap[r]? with
    | none => simp [ho] at h
    | some o =>
      simp only [ho] at h
      cases o <;> first | exact h.elim | exact ih _ w K h
  | setObj r o k ih =>
    intro w K h
    simp only [hr] at h
    simp only [Sem.run]
    cases ho : w.heap[r]? with
    | none => simp [ho] at h
    | some o' =>
      simp only [ho] at h
      cases o' <;> first | exact h.elim | (obtain ⟨x, w', r1, r2, r3⟩ := ih { w with heap := w.heap.setIfInBounds r o } K h; exact ⟨x, w', r1, ⟨r2.os, r2.tape, r2.output⟩, r3⟩)
  | choose q k ih =>
    intro w K h
    simp only [hr] at h
    simp only [Sem.run]
    by_cases hq : q.forced = true
    · rw [if_pos hq]
      have := h 0
      rw [if_pos hq] at this
      exact ih 0 w K this
    · rw [if_neg hq]
      have := h (w.tape w.drawn q)
      rw [if_neg hq] at this
      obtain ⟨x, w', r1, r2, r3⟩ := ih _ { w with drawn := w.drawn + 1 } K this
      exact ⟨x, w', r1, ⟨r2.os, r2.tape, r2.output⟩, r3⟩
  | sys c k ih => intro w K h; exact h.elim
  | program k ih =>
    intro w K h
    obtain ⟨x, w', r1, r2, r3⟩ := ih P w K h
    exact ⟨x, w', r1, r2, r3⟩
  | mark m k ih =>
    intro w K h
    obtain ⟨x, w', r1, r2, r3⟩ := ih w K h
    exact ⟨x, w', r1, r2, r3⟩
  | halt x => intro w K h; exact h.elim

/-- The same, said of every world of the heap. -/
def sr (P : Program) {α : Type} (s : Sem α) (h : Heap) (K : α → Heap → Prop) : Prop := ∀ w : World, w.heap = h → ∃ v w', s.run P w = .ok v w' ∧ Same w w' ∧ K v w'.heap
theorem sr_of_hr {P : Program} {α : Type} {s : Sem α} {h : Heap} {K : α → Heap → Prop} (H : hr P s h K) : sr P s h K := fun w hw => hr_run s w K (by rw [hw]; exact H)

theorem hr_bind {P : Program} {α β : Type} (s : Sem α) (f : α → Sem β) : ∀ (h : Heap) (K : β → Heap → Prop),
    hr P (s.bind f) h K = hr P s h (fun v h' => hr P (f v) h' K) := by
  induction s with
  | pure a => intro h K; rfl
  | load m a k ih => intro h K; simp only [Sem.bind, hr]; split <;> simp_all
  | store m a v k ih => intro h K; simp only [Sem.bind, hr, ih]
  | new o k ih => intro h K; simp only [Sem.bind, hr, ih]
  | shape r k ih => intro h K; simp only [Sem.bind, hr, ih]
  | freeze a n k ih => intro h K; simp only [Sem.bind, hr, ih]
  | frozen a k ih => intro h K; simp only [Sem.bind, hr, ih]
  | getObj r k ih => intro h K; simp only [Sem.bind, hr]; split <;> simp_all
  | setObj r o k ih => intro h K; simp only [Sem.bind, hr]; split <;> simp_all
  | choose q k ih => intro h K; simp only [Sem.bind, hr, ih]
  | sys c k ih => intro h K; rfl
  | program k ih => intro h K; simp only [Sem.bind, hr, ih]
  | mark m k ih => intro h K; simp only [Sem.bind, hr, ih]
  | halt x => intro h K; rfl

theorem hr_bind' {P : Program} {α β : Type} (s : Sem α) (f : α → Sem β) (h : Heap) (K : β → Heap → Prop) :
    hr P (s >>= f) h K = hr P s h (fun v h' => hr P (f v) h' K) := hr_bind s f h K
theorem hr_pure {P : Program} {α : Type} (a : α) (h : Heap) (K : α → Heap → Prop) : hr P (pure a : Sem α) h K = K a h := rfl

theorem hr_mono {P : Program} {α : Type} (s : Sem α) : ∀ (h : Heap) (K K' : α → Heap → Prop), hr P s h K → (∀ v h', K v h' → K' v h') → hr P s h K' := by
  induction s with
  | pure a => intro h K K' H m; exact m _ _ H
  | load m a k ih => intro h K K' H m; simp only [hr] at H ⊢; split <;> simp_all; exact ih _ _ _ _ H m
  | store m a v k ih => intro h K K' H m; exact ⟨H.1, H.2.1, H.2.2.1, ih _ _ _ H.2.2.2 m⟩
  | new o k ih => intro h K K' H m; exact ih _ _ _ _ H m
  | shape r k ih => intro h K K' H m; exact ih _ _ _ _ H m
  | freeze a n k ih => intro h K K' H m; exact ih _ _ _ H m
  | frozen a k ih => intro h K K' H m; exact ih _ _ _ _ H m
  | getObj r k ih =>
    intro h K K' H m
    simp only [hr] at H ⊢
    cases ho : h[r]? with
    | none => simp [ho] at H
    | some o => simp only [ho] at H ⊢; cases o <;> first | exact H.elim | exact ih _ _ _ _ H m
  | setObj r o k ih =>
    intro h K K' H m
    simp only [hr] at H ⊢
    cases ho : h[r]? with
    | none => simp [ho] at H
    | some o => simp only [ho] at H ⊢; cases o <;> first | exact H.elim | exact ih _ _ _ H m
  | choose q k ih => intro h K K' H m; exact fun t => ih _ _ _ _ (H t) m
  | sys c k ih => intro h K K' H m; exact H
  | program k ih => intro h K K' H m; exact ih _ _ _ _ H m
  | mark m k ih => intro h K K' H m; exact ih _ _ _ H m
  | halt x => intro h K K' H m; exact H

/-- What only reads is a transformer that hands on what it yields. -/
theorem hr_of_rd {P : Program} {α : Type} (s : Sem α) : ∀ (h : Heap) (v : α) (K : α → Heap → Prop), rd P s h = some v → K v h → hr P s h K := by
  induction s with
  | pure a => intro h v K H k; cases H; exact k
  | load m a k ih =>
    intro h v K H kk
    simp only [rd] at H
    simp only [hr]
    cases hc : cellAt h a with
    | none => simp [hc] at H
    | some u => simp only [hc] at H; exact ih _ _ _ _ H kk
  | store m a v k ih => intro h u K H kk; simp [rd] at H
  | new o k ih => intro h u K H kk; simp [rd] at H
  | shape r k ih => intro h u K H kk; exact ih _ _ _ _ H kk
  | freeze a n k ih => intro h u K H kk; simp [rd] at H
  | frozen a k ih => intro h u K H kk; exact ih _ _ _ _ H kk
  | getObj r k ih =>
    intro h u K H kk
    simp only [rd] at H
    simp only [hr]
    cases ho : h[r]? with
    | none => simp [ho] at H
    | some o => simp only [ho] at H; cases o <;> first | (simp at H; done) | exact ih _ _ _ _ H kk
  | setObj r o k ih => intro h u K H kk; simp [rd] at H
  | choose q k ih =>
    intro h u K H kk
    simp only [rd] at H
    simp only [hr]
    intro t
    by_cases hq : q.forced = true
    · rw [if_pos hq] at H ⊢; exact ih _ _ _ _ H kk
    · rw [if_neg hq] at H; cases H
  | sys c k ih => intro h u K H kk; simp [rd] at H
  | program k ih => intro h u K H kk; exact ih _ _ _ _ H kk
  | mark m k ih => intro h u K H kk; exact ih _ _ _ H kk
  | halt x => intro h u K H kk; simp [rd] at H

theorem rd_bind {P : Program} {α β : Type} (s : Sem α) (f : α → Sem β) : ∀ (h : Heap), rd P (s.bind f) h = (rd P s h).bind fun v => rd P (f v) h := by
  induction s with
  | pure a => intro h; rfl
  | load m a k ih => intro h; simp only [Sem.bind, rd]; split <;> simp_all
  | store m a v k ih => intro h; rfl
  | new o k ih => intro h; rfl
  | shape r k ih => intro h; simp only [Sem.bind, rd, ih]
  | freeze a n k ih => intro h; rfl
  | frozen a k ih => intro h; simp only [Sem.bind, rd, ih]
  | getObj r k ih => intro h; simp only [Sem.bind, rd]; split <;> simp_all
  | setObj r o k ih => intro h; rfl
  | choose q k ih => intro h; simp only [Sem.bind, rd]; split <;> simp_all
  | sys c k ih => intro h; rfl
  | program k ih => intro h; simp only [Sem.bind, rd, ih]
  | mark m k ih => intro h; simp only [Sem.bind, rd, ih]
  | halt x => intro h; rfl
theorem rd_bind' {P : Program} {α β : Type} (s : Sem α) (f : α → Sem β) (h : Heap) : rd P (s >>= f) h = (rd P s h).bind fun v => rd P (f v) h := rd_bind s f h
theorem rd_pure {P : Program} {α : Type} (a : α) (h : Heap) : rd P (pure a : Sem α) h = some a := rfl

/-! ### Calls, over heaps -/

/-- The call returns, from whatever world of this heap; nothing but the heap (and the count of draws) turns. -/
def HCalls (P : Program) (f : FuncId) (args : Array Value) (h : Heap) (R : Value → Heap → Prop) : Prop :=
  ∀ w : World, w.heap = h → Calls P f args w fun e w' => ∃ v, e = .returned v ∧ Same w w' ∧ R v w'.heap

theorem HCalls.mono {P : Program} {f : FuncId} {args : Array Value} {h : Heap} {R R' : Value → Heap → Prop} (H : HCalls P f args h R)
    (m : ∀ v h', R v h' → R' v h') : HCalls P f args h R' :=
  fun w hw => (H w hw).mono fun _ _ ⟨v, h1, h2, h3⟩ => ⟨v, h1, h2, m _ _ h3⟩

/-! ### Environments -/

abbrev Env := List (Nat × Value)
def Env.get : Env → Nat → Option Value
  | [], _ => none
  | (k, v) :: r, t => if k = t then some v else Env.get r t
def Env.set : Env → Nat → Value → Env
  | [], t, v => [(t, v)]
  | (k, u) :: r, t, v => if k = t then (k, v) :: r else (k, u) :: Env.set r t v
def Env.keep : List Nat → Env → Env
  | [], _ => []
  | k :: ks, ρ => match Env.get ρ k with
    | some v => (k, v) :: Env.keep ks ρ
    | none => Env.keep ks ρ

theorem Env.get_set (ρ : Env) (t : Nat) (v : Value) (u : Nat) : (Env.set ρ t v).get u = if t = u then some v else ρ.get u := by
  induction ρ with
  | nil => simp [Env.set, Env.get]
  | cons p r ih =>
    obtain ⟨k, x⟩ := p
    simp only [Env.set]
    by_cases hk : k = t
    · subst hk; simp only [if_true, Env.get]; split <;> rfl
    · simp only [hk, if_false, Env.get, ih]
      by_cases hu : k = u
      · subst hu; simp [Ne.symm hk]
      · simp [hu]

theorem Env.get_keep (ks : List Nat) (ρ : Env) (t : Nat) (v : Value) (h : (Env.keep ks ρ).get t = some v) : ρ.get t = some v := by
  induction ks with
  | nil => simp [Env.keep, Env.get] at h
  | cons k ks ih =>
    simp only [Env.keep] at h
    cases hk : Env.get ρ k with
    | none => rw [hk] at h; exact ih h
    | some u =>
      rw [hk] at h
      simp only [Env.get] at h
      split at h
      · rename_i he; subst he; rw [hk]; exact h
      · exact ih h

def lk (τ ρ : Env) (t : Nat) : Option Value :=
  match τ.get t with
  | some v => some v
  | none => ρ.get t

def evo (τ ρ : Env) : Operand → Option Value
  | .tmp t => lk τ ρ t
  | .const v => some v
  | .global g => some (.pointer (some ⟨g, 0, none⟩))
  | .func f => some (.func (.func f) #[] #[])
def evd (τ ρ : Env) (x : Operand) : Value := (evo τ ρ x).getD undef

/-! ### Stripped code -/

structure Sop where
  dst : Option (Nat × Bool)
  op : Op
  type : TypeId
  guard : Option (Nat × Bool)
  q : Bool

def Sop.oper (o : Sop) : Oper := { dst := none, op := o.op, type := o.type, pos := "", after := #[], guard := none }

/-- A region whose writers may come up in more than one order. -/
inductive Dt where
  | done
  | run (o : Sop) (re : List Sop) (next : Dt)
  | both (a b : Dt)

inductive Cd where
  | skip
  | region (ops : List Sop)
  | draw (ops : List (Sop × List Sop))
  | tree (t : Dt)
  | seq (a b : Cd)
  | cond (c : Operand) (a b : Cd)
  | block (id : Nat) (a : Cd)
  | loop (a : Cd)
  | exit (id : Nat)
  | ret

def putT (d : Option (Nat × Bool)) (v : Value) (τ : Env) : Env :=
  match d with
  | some (t, false) => (t, v) :: τ
  | _ => τ
def putR (d : Option (Nat × Bool)) (v : Value) (ρ : Env) : Env :=
  match d with
  | some (t, true) => ρ.set t v
  | _ => ρ

def asB : Value → Option Bool
  | .bool b => some b
  | _ => none

def known (τ ρ : Env) (op : Op) : Prop := ∀ x ∈ op.operands, (evo τ ρ x).isSome = true
instance (τ ρ : Env) (op : Op) : Decidable (known τ ρ op) := by unfold known; infer_instance

def nextTo (P : Program) (K : Value → Heap → Prop) : Next → Heap → Prop
  | .value v, h => K v h
  | .skip, h => K undef h
  | .enter f args, h => HCalls P f args h K
  | _, _ => False

def valOf : Option Next → Option Value
  | some (.value v) => some v
  | _ => none

def rdOp (P : Program) (o : Sop) (τ ρ : Env) (h : Heap) : Option Value :=
  if known τ ρ o.op then valOf (rd P (execOp (evd τ ρ) o.oper) h) else none

def vcOp (P : Program) (o : Sop) (τ ρ : Env) (h : Heap) (K : Value → Heap → Prop) : Prop :=
  known τ ρ o.op ∧ sr P (execOp (evd τ ρ) o.oper) h (fun nx h' => nextTo P K nx h')

/-- One operation, its guard not looked at. -/
def vcRun (P : Program) (o : Sop) (τ ρ : Env) (h : Heap) (N : Env → Env → Heap → Prop) : Prop :=
  if o.q then
    match rdOp P o τ ρ h with
    | some v => N (putT o.dst v τ) (putR o.dst v ρ) h
    | none => False
  else vcOp P o τ ρ h (fun v h' => N (putT o.dst v τ) (putR o.dst v ρ) h')

def vcOne (P : Program) (o : Sop) (τ ρ : Env) (h : Heap) (N : Env → Env → Heap → Prop) : Prop :=
  match o.guard with
  | none => vcRun P o τ ρ h N
  | some (g, want) =>
    match lk τ ρ g with
    | some v => if asB v = some want then vcRun P o τ ρ h N else N (putT o.dst undef τ) (putR o.dst undef ρ) h
    | none => False

def vcOps (P : Program) (K : Env → Heap → Prop) : List Sop → Env → Env → Heap → Prop
  | [], _, ρ, h => K ρ h
  | o :: r, τ, ρ, h => vcOne P o τ ρ h (vcOps P K r)

inductive Ex where
  | normal
  | exit (id : Nat)
  | ret

def Ex.thn (next : Env → Heap → Prop) (Q : Ex → Env → Heap → Prop) : Ex → Env → Heap → Prop
  | .normal, ρ, h => next ρ h
  | e, ρ, h => Q e ρ h
def Ex.inb (id : Nat) (Q : Ex → Env → Heap → Prop) : Ex → Env → Heap → Prop
  | .exit id', ρ, h => if id' = id then Q .normal ρ h else Q (.exit id') ρ h
  | e, ρ, h => Q e ρ h

end Go.Vc
namespace Go.Vc
set_option linter.unusedSimpArgs false
set_option linter.unusedVariables false

def still (P : Program) (x : Sop) (τ ρ : Env) (h : Heap) : Prop :=
  match x.dst with
  | none => False
  | some (t, _) => match x.guard with
    | none => rdOp P x τ ρ h = lk τ ρ t ∧ (lk τ ρ t).isSome = true
    | some (g, want) => match lk τ ρ g with
      | some v => asB v = some want → rdOp P x τ ρ h = lk τ ρ t ∧ (lk τ ρ t).isSome = true
      | none => False

def stills (P : Program) : List Sop → Env → Env → Heap → Prop
  | [], _, _, _ => True
  | x :: r, τ, ρ, h => still P x τ ρ h ∧ stills P r τ ρ h

def vcDraw (P : Program) (K : Env → Heap → Prop) : List (Sop × List Sop) → Env → Env → Heap → Prop
  | [], _, ρ, h => K ρ h
  | (o, re) :: r, τ, ρ, h => vcOne P o τ ρ h (fun τ' ρ' h' => stills P re τ' ρ' h' ∧ vcDraw P K r τ' ρ' h')

def vcT (P : Program) (K : Env → Heap → Prop) : Dt → Env → Env → Heap → Prop
  | .done, _, ρ, h => K ρ h
  | .run o re n, τ, ρ, h => vcOne P o τ ρ h (fun τ' ρ' h' => stills P re τ' ρ' h' ∧ vcT P K n τ' ρ' h')
  | .both a b, τ, ρ, h => vcT P K a τ ρ h ∧ vcT P K b τ ρ h

def Cd.vc (P : Program) : Cd → (Ex → Env → Heap → Prop) → Env → Heap → Prop
  | .skip, Q, ρ, h => Q .normal ρ h
  | .region ops, Q, ρ, h => vcOps P (Q .normal) ops [] ρ h
  | .draw ops, Q, ρ, h => vcDraw P (Q .normal) ops [] ρ h
  | .tree t, Q, ρ, h => vcT P (Q .normal) t [] ρ h
  | .seq a b, Q, ρ, h => a.vc P (Ex.thn (b.vc P Q) Q) ρ h
  | .cond c a b, Q, ρ, h => match (evo [] ρ c).bind asB with
    | some t => if t = true then a.vc P Q ρ h else b.vc P Q ρ h
    | none => False
  | .block id a, Q, ρ, h => a.vc P (Ex.inb id Q) ρ h
  | .loop a, Q, ρ, h => ∃ (ks : List Nat) (I : Nat → Env → Heap → Prop), (∃ m, I m (ρ.keep ks) h) ∧
      ∀ m ρ h, I m ρ h → a.vc P (Ex.thn (fun ρ' h' => ∃ m', m' < m ∧ I m' (ρ'.keep ks) h') Q) ρ h
  | .exit id, Q, ρ, h => Q (.exit id) ρ h
  | .ret, Q, ρ, h => Q .ret ρ h

/-! ### Stripping -/

def noSel : Op → Bool
  | .select .. => false
  | _ => true

/-- Reckoning with numbers with parts may draw the bits of what is no number. -/
def isF (P : Program) (t : TypeId) : Bool := match P.underlying t with
  | some (.float _) => true
  | _ => false
def quietOp (P : Program) : Op → Bool
  | .move _ | .assign _ | .pick .. | .load .. | .nilCheck _ | .unOp .. | .slice .. | .fieldAddr .. | .field .. | .indexAddr .. | .index .. | .lookup .. | .extract .. | .build .. | .makeInterface .. | .makeFunc .. => true
  | .binOp o t _ _ _ => match o with
    | .add | .sub | .mul | .quo => !isF P t
    | _ => true
  | .convert src dst _ => match P.underlying src, P.underlying dst with
    | some .string, some (.slice _) => false
    | some (.slice _), some (.slice _) => false
    | some (.float _), some (.float _) => false
    | _, _ => true
  | .call { callee := .builtin .len, .. } => true
  | .call { callee := .builtin .cap, .. } => true
  | .call { callee := .builtin .min, .. } => true
  | .call { callee := .builtin .max, .. } => true
  | _ => false

def stripOp (P : Program) (L : List Nat) (n : Nat) (ops : List Oper) (o : Oper) : Option Sop :=
  if noSel o.op then
    match (match o.dst with
      | none => some none
      | some t => if t < n then some (some (t, L.contains t)) else none),
      (match o.guard with
      | none => some none
      | some (j, want) => match (ops[j]?).bind (·.dst) with
        | some g => some (some (g, want))
        | none => none) with
    | some d, some g => some { dst := d, op := o.op, type := o.type, guard := g, q := quietOp P o.op }
    | _, _ => none
  else none

def stripOps (P : Program) (L : List Nat) (n : Nat) (ops : List Oper) : List Oper → Option (List Sop)
  | [] => some []
  | o :: r => match stripOp P L n ops o, stripOps P L n ops r with
    | some s, some t => some (s :: t)
    | _, _ => none

/-! ### The frame and the environment -/

structure Ag (L : List Nat) (n : Nat) (a : Act) (τ ρ : Env) : Prop where
  nod : a.defers = []
  sz : a.tmps.size = n
  t1 : ∀ t v, τ.get t = some v → a.tmps[t]? = some v
  r1 : ∀ t v, ρ.get t = some v → a.tmps[t]? = some v
  tL : ∀ t v, τ.get t = some v → L.contains t = false
  rL : ∀ t v, ρ.get t = some v → L.contains t = true

section
variable {L : List Nat} {n : Nat} {a : Act} {τ ρ : Env}
theorem Ag.lk (H : Ag L n a τ ρ) {t : Nat} {v : Value} (h : lk τ ρ t = some v) : a.tmps[t]? = some v := by
  unfold Go.Vc.lk at h
  cases ht : τ.get t with
  | some u => rw [ht] at h; exact H.t1 t v (ht.trans h)
  | none => rw [ht] at h; exact H.r1 t v h
theorem Ag.evo (H : Ag L n a τ ρ) {x : Operand} {v : Value} (h : evo τ ρ x = some v) : a.eval x = v := by
  cases x with
  | tmp t => simp [Act.eval, H.lk h]
  | const u => simp only [Go.Vc.evo, Option.some.injEq] at h; subst h; rfl
  | global g => simp only [Go.Vc.evo, Option.some.injEq] at h; subst h; rfl
  | func f => simp only [Go.Vc.evo, Option.some.injEq] at h; subst h; rfl
theorem Ag.evd (H : Ag L n a τ ρ) {x : Operand} (h : (Go.Vc.evo τ ρ x).isSome = true) : a.eval x = evd τ ρ x := by
  obtain ⟨v, hv⟩ := Option.isSome_iff_exists.1 h
  rw [H.evo hv]; simp [Go.Vc.evd, hv]
theorem Ag.drop (H : Ag L n a τ ρ) : Ag L n a [] ρ := ⟨H.nod, H.sz, fun t v h => by simp [Env.get] at h, H.r1, fun t v h => by simp [Env.get] at h, H.rL⟩
theorem Ag.keep (H : Ag L n a τ ρ) (ks : List Nat) : Ag L n a [] (ρ.keep ks) :=
  ⟨H.nod, H.sz, fun t v h => by simp [Env.get] at h, fun t v h => H.r1 t v (Env.get_keep ks ρ t v h), fun t v h => by simp [Env.get] at h, fun t v h => H.rL t v (Env.get_keep ks ρ t v h)⟩
theorem Ag.put (H : Ag L n a τ ρ) {t : Nat} (ht : t < n) (v : Value) : Ag L n (a.put (some t) v) (putT (some (t, L.contains t)) v τ) (putR (some (t, L.contains t)) v ρ) := by
  have hs : (a.put (some t) v).tmps.size = n := by simp [Act.put, H.sz]
  have hget : ∀ u, (a.put (some t) v).tmps[u]? = if t = u then some v else a.tmps[u]? := by
    intro u
    simp only [Act.put, Array.getElem?_setIfInBounds, H.sz]
    by_cases h : t = u
    · subst h; simp [ht]
    · simp [h]
  cases hL : L.contains t with
  | true =>
    refine ⟨H.nod, hs, ?_, ?_, H.tL, ?_⟩
    · intro u w hu
      rw [hget]
      by_cases h : t = u
      · subst h; have := H.tL t w hu; rw [hL] at this; cases this
      · rw [if_neg h]; exact H.t1 u w hu
    · intro u w hu
      simp only [putR, Env.get_set] at hu
      rw [hget]
      split at hu
      · rename_i h; rw [if_pos h]; exact hu
      · rename_i h; rw [if_neg h]; exact H.r1 u w hu
    · intro u w hu
      simp only [putR, Env.get_set] at hu
      split at hu
      · rename_i h; rw [← h]; exact hL
      · exact H.rL u w hu
  | false =>
    refine ⟨H.nod, hs, ?_, ?_, ?_, H.rL⟩
    · intro u w hu
      simp only [putT, Env.get] at hu
      rw [hget]
      split at hu
      · rename_i h; rw [if_pos h]; exact hu
      · rename_i h; rw [if_neg h]; exact H.t1 u w hu
    · intro u w hu
      rw [hget]
      by_cases h : t = u
      · subst h; have := H.rL t w hu; rw [hL] at this; cases this
      · rw [if_neg h]; exact H.r1 u w hu
    · intro u w hu
      simp only [putT, Env.get] at hu
      split at hu
      · rename_i h; rw [← h]; exact hL
      · exact H.tL u w hu
end

theorem execOp_oper (f : Operand → Value) (o : Oper) (s : Sop) (h1 : s.op = o.op) (h2 : s.type = o.type) : execOp f o = execOp f s.oper := by
  obtain ⟨dst, op, type, pos, after, guard⟩ := o
  obtain ⟨d, sop, st, g, q⟩ := s
  subst h1; subst h2
  rfl

section
variable {P : Program} {L : List Nat} {n : Nat} {Q : Exit → Act → World → Prop}

/-- What is done with what one operation yields. -/
theorem upon_sound {o : Oper} {a : Act} {w0 : World} {N : Act → World → Prop} {K : Value → Heap → Prop}
    (hN : ∀ v w', Same w0 w' → K v w'.heap → N (a.put o.dst v) w') {r : Result Next} {nx : Next} {w' : World}
    (hr : r = .ok nx w') (hs : Same w0 w') (hk : nextTo P K nx w'.heap) : o.upon P a N Q r := by
  subst hr
  cases nx <;> simp only [nextTo] at hk <;> first | exact hk.elim | skip
  case value v => exact hN v w' hs hk
  case skip => exact hN undef w' hs hk
  case enter f args =>
    refine (hk w' rfl).mono ?_
    rintro e w2 ⟨v, rfl, h2, h3⟩
    exact hN v w2 (hs.trans h2) h3

theorem op_sound {o : Oper} {s : Sop} {a : Act} {τ ρ : Env} {w0 w : World} (H : ∀ x ∈ o.op.operands, (evo τ ρ x).isSome = true → a.eval x = evd τ ρ x) (h1 : s.op = o.op) (h2 : s.type = o.type) (hsel : noSel o.op = true)
    (hs : Same w0 w) {N : Act → World → Prop} {K : Value → Heap → Prop} (hN : ∀ v w', Same w0 w' → K v w'.heap → N (a.put o.dst v) w')
    (hv : vcOp P s τ ρ w.heap K) : o.wp P a w N Q := by
  obtain ⟨hk, hr⟩ := hv
  have he : execOp a.eval o = execOp (evd τ ρ) s.oper := by
    rw [← execOp_oper _ o s h1 h2]
    refine execOp_congr o ?_ ?_
    · intro cs b e; rw [e] at hsel; simp [noSel] at hsel
    · intro x hx; exact H x hx (hk x (by rw [h1]; exact hx))
  obtain ⟨nx, w', r1, r2, r3⟩ := hr w rfl
  unfold Oper.wp
  exact upon_sound hN (by rw [he]; exact r1) (hs.trans r2) r3

theorem run_sound {o : Oper} {s : Sop} {a : Act} {τ ρ : Env} {w0 w : World} (H : ∀ x ∈ o.op.operands, (evo τ ρ x).isSome = true → a.eval x = evd τ ρ x) (h1 : s.op = o.op) (h2 : s.type = o.type) (hsel : noSel o.op = true)
    (hs : Same w0 w) {N : Act → World → Prop} {M : Env → Env → Heap → Prop}
    (hN : ∀ v w', Same w0 w' → M (putT s.dst v τ) (putR s.dst v ρ) w'.heap → N (a.put o.dst v) w')
    (hv : vcRun P s τ ρ w.heap M) : o.wp P a w N Q := by
  unfold vcRun at hv
  split at hv
  · have : vcOp P s τ ρ w.heap (fun v h' => M (putT s.dst v τ) (putR s.dst v ρ) h') := by
      cases hr : rdOp P s τ ρ w.heap with
      | none => rw [hr] at hv; exact hv.elim
      | some v =>
        rw [hr] at hv
        unfold rdOp at hr
        split at hr
        · rename_i hk
          refine ⟨hk, ?_⟩
          cases hx : rd P (execOp (evd τ ρ) s.oper) w.heap with
          | none => rw [hx] at hr; cases hr
          | some nx =>
            rw [hx] at hr
            cases nx <;> simp only [valOf] at hr <;> first | cases hr | skip
            exact sr_of_hr (hr_of_rd _ _ _ _ hx hv)
        · cases hr
    exact op_sound H h1 h2 hsel hs hN this
  · exact op_sound H h1 h2 hsel hs hN hv

theorem stripOp_spec {ops : List Oper} {o : Oper} {s : Sop} (h : stripOp P L n ops o = some s) :
    s.op = o.op ∧ s.type = o.type ∧ noSel o.op = true ∧ s.q = quietOp P o.op ∧
    ((o.dst = none ∧ s.dst = none) ∨ ∃ t, o.dst = some t ∧ t < n ∧ s.dst = some (t, L.contains t)) ∧
    ((o.guard = none ∧ s.guard = none) ∨ ∃ j want g, o.guard = some (j, want) ∧ (ops[j]?).bind (·.dst) = some g ∧ s.guard = some (g, want)) := by
  unfold stripOp at h
  split at h
  · rename_i hsel
    split at h
    · rename_i d g hd hg
      cases h
      refine ⟨rfl, rfl, hsel, rfl, ?_, ?_⟩
      · split at hd
        · rename_i he; cases hd; exact .inl ⟨he, rfl⟩
        · rename_i t he
          split at hd
          · rename_i hlt; cases hd; exact .inr ⟨t, he, hlt, rfl⟩
          · cases hd
      · split at hg
        · rename_i he; cases hg; exact .inl ⟨he, rfl⟩
        · rename_i j want he
          split at hg
          · rename_i g' hg'; cases hg; exact .inr ⟨j, want, g', he, hg', rfl⟩
          · cases hg
    · cases h
  · cases h

theorem put_none (a : Act) (v : Value) : a.put none v = a := rfl

theorem Ag.putS {a : Act} {τ ρ : Env} (H : Ag L n a τ ρ) {o : Oper} {s : Sop}
    (hd : (o.dst = none ∧ s.dst = none) ∨ ∃ t, o.dst = some t ∧ t < n ∧ s.dst = some (t, L.contains t)) (v : Value) :
    Ag L n (a.put o.dst v) (putT s.dst v τ) (putR s.dst v ρ) := by
  rcases hd with ⟨h1, h2⟩ | ⟨t, h1, h2, h3⟩
  · rw [h1, h2]; exact H
  · rw [h1, h3]; exact H.put h2 v

theorem asB_some {v : Value} {b : Bool} (h : asB v = some b) : v = .bool b := by
  cases v <;> simp [asB] at h
  subst h; rfl

/-- The guard, as the frame has it. -/
theorem wanted_eq {ops : Array Oper} {o : Oper} {a : Act} {τ ρ : Env} (H : Ag L n a τ ρ) {j : Nat} {want : Bool} {g : Nat}
    (h1 : o.guard = some (j, want)) (h2 : (ops.toList[j]?).bind (·.dst) = some g) {v : Value} (hv : lk τ ρ g = some v) :
    Region.wanted o (yielded ops a.tmps) = true ↔ asB v = some want := by
  have hg : (ops[j]?).bind (·.dst) = some g := by simpa using h2
  have ht := H.lk hv
  unfold Region.wanted yielded
  rw [h1]
  simp only [hg, Option.bind_some, ht]
  cases v <;> simp [asB]

theorem ops_sound {ops : Array Oper} {w0 : World} {K : Env → Heap → Prop} (hQ : ∀ a ρ w, Ag L n a [] ρ → Same w0 w → K ρ w.heap → Q .normal a w) :
    ∀ (l : List Oper) (sl : List Sop), stripOps P L n ops.toList l = some sl → ∀ (a : Act) (τ ρ : Env) (w : World), Ag L n a τ ρ → Same w0 w →
      vcOps P K sl τ ρ w.heap → wpList P ops Q l a w := by
  intro l
  induction l with
  | nil =>
    intro sl hsl a τ ρ w H hs hv
    simp only [stripOps] at hsl
    cases hsl
    exact hQ a ρ w H.drop hs hv
  | cons o r ih =>
    intro sl hsl a τ ρ w H hs hv
    simp only [stripOps] at hsl
    split at hsl
    · rename_i s t h1 h2
      cases hsl
      obtain ⟨e1, e2, e3, _, hd, hg⟩ := stripOp_spec h1
      have hN : ∀ v w', Same w0 w' → vcOps P K t (putT s.dst v τ) (putR s.dst v ρ) w'.heap → wpList P ops Q r (a.put o.dst v) w' :=
        fun v w' hs' hk => ih t h2 _ _ _ w' (H.putS hd v) hs' hk
      simp only [vcOps, vcOne] at hv
      unfold wpList
      rcases hg with ⟨g1, g2⟩ | ⟨j, want, g, g1, g2, g3⟩
      · rw [g2] at hv
        rw [if_pos (by simp [Region.wanted, g1])]
        exact .inl (run_sound (fun _ _ hx => H.evd hx) e1 e2 e3 hs hN hv)
      · rw [g3] at hv
        cases hl : lk τ ρ g with
        | none => simp only [hl] at hv
        | some v =>
          simp only [hl] at hv
          have hw := wanted_eq H g1 g2 hl
          by_cases hb : asB v = some want
          · rw [if_pos hb] at hv
            rw [if_pos (hw.2 hb)]
            exact .inl (run_sound (fun _ _ hx => H.evd hx) e1 e2 e3 hs hN hv)
          · rw [if_neg hb] at hv
            rw [if_neg (fun h => hb (hw.1 h))]
            exact hN undef w hs hv
    · cases hsl

theorem region_sound {id : Nat} {ops : Array Oper} {sl : List Sop} {w0 w : World} {a : Act} {ρ : Env} {K : Env → Heap → Prop}
    (hQ : ∀ a ρ w, Ag L n a [] ρ → Same w0 w → K ρ w.heap → Q .normal a w) (h : stripOps P L n ops.toList ops.toList = some sl)
    (H : Ag L n a [] ρ) (hs : Same w0 w) (hv : vcOps P K sl [] ρ w.heap) : (Code.region id ops false).wp P Q a w :=
  wp_region_list (ops_sound hQ _ _ h a [] ρ w H hs hv)
end
end Go.Vc
namespace Go.Vc
set_option linter.unusedSimpArgs false
set_option linter.unusedVariables false

theorem rd_run {P : Program} {α : Type} (s : Sem α) : ∀ (w : World) (v : α), rd P s w.heap = some v → s.run P w = .ok v w := by
  induction s with
  | pure a => intro w v H; cases H; rfl
  | load m a k ih =>
    intro w v H
    have hc : w.cell? a = cellAt w.heap a := rfl
    simp only [rd] at H
    cases hv : cellAt w.heap a with
    | none => simp [hv] at H
    | some u => simp only [hv] at H; simp only [Sem.run, hc, hv]; exact ih _ _ _ H
  | store m a v k ih => intro w u H; simp [rd] at H
  | new o k ih => intro w u H; simp [rd] at H
  | shape r k ih => intro w u H; exact ih _ _ _ H
  | freeze a n k ih => intro w u H; simp [rd] at H
  | frozen a k ih => intro w u H; exact ih _ _ _ H
  | getObj r k ih =>
    intro w u H
    simp only [rd] at H
    simp only [Sem.run]
    cases ho : w.heap[r]? with
    | none => simp [ho] at H
    | some o => simp only [ho] at H; cases o <;> first | (simp at H; done) | exact ih _ _ _ H
  | setObj r o k ih => intro w u H; simp [rd] at H
  | choose q k ih =>
    intro w u H
    simp only [rd] at H
    simp only [Sem.run]
    by_cases hq : q.forced = true
    · rw [if_pos hq] at H ⊢; exact ih _ _ _ H
    · rw [if_neg hq] at H; cases H
  | sys c k ih => intro w u H; simp [rd] at H
  | program k ih => intro w u H; exact ih _ _ _ H
  | mark m k ih => intro w u H; exact ih _ _ H
  | halt x => intro w u H; simp [rd] at H

/-! ### Meanings that never look at the heap -/

def noHeap {α : Type} : Sem α → Prop
  | .pure _ => True
  | .choose _ k => ∀ n, noHeap (k n)
  | .program k => ∀ p, noHeap (k p)
  | .mark _ k => noHeap k
  | .halt _ => True
  | _ => False

theorem noHeap_bind {α β : Type} (s : Sem α) (f : α → Sem β) (h : noHeap s) (hf : ∀ a, noHeap (f a)) : noHeap (s.bind f) := by
  induction s with
  | pure a => exact hf a
  | choose q k ih => exact fun n => ih n (h n)
  | program k ih => exact fun p => ih p (h p)
  | mark m k ih => exact ih h
  | halt x => trivial
  | _ => exact h.elim
theorem noHeap_bind' {α β : Type} (s : Sem α) (f : α → Sem β) (h : noHeap s) (hf : ∀ a, noHeap (f a)) : noHeap (s >>= f) := noHeap_bind s f h hf
theorem noHeap_pure {α : Type} (a : α) : noHeap (pure a : Sem α) := trivial

theorem rd_noHeap {P : Program} {α : Type} (s : Sem α) (hs : noHeap s) (h h' : Heap) : rd P s h = rd P s h' := by
  induction s with
  | pure a => rfl
  | choose q k ih => simp only [rd]; split <;> first | exact ih _ (hs 0) | rfl
  | program k ih => exact ih P (hs P)
  | mark m k ih => exact ih hs
  | halt x => rfl
  | _ => exact hs.elim

def heapFree : Op → Bool
  | .move _ | .assign _ | .pick .. | .extract .. | .makeFunc .. | .unOp .. | .field .. | .index .. => true
  | _ => false

theorem noHeap_asBool (v : Value) : noHeap (asBool v) := by cases v <;> trivial
theorem noHeap_underlying (t : TypeId) : noHeap (underlying t) := by
  intro p
  show noHeap (match p.underlying t with | some d => pure d | none => stuck "no such type")
  split <;> trivial
theorem noHeap_typeInfo (t : TypeId) : noHeap (typeInfo t) := by
  intro p
  show noHeap (match p.info? t with | some d => pure d | none => stuck "no such type")
  split <;> trivial
theorem noHeap_sizeOf (t : TypeId) : noHeap (sizeOf t) := noHeap_bind' _ _ (noHeap_typeInfo t) fun _ => trivial
theorem noHeap_isAgg (t : TypeId) : noHeap (isAgg t) := noHeap_bind' _ _ (noHeap_underlying t) fun d => by split <;> trivial
theorem noHeap_asAgg (v : Value) : noHeap (asAgg v) := by cases v <;> trivial
theorem noHeap_asIntOf (v : Value) : noHeap (asIntOf v) := by
  unfold asIntOf; split <;> trivial
theorem noHeap_part (t : TypeId) (cs : Array Value) (off : Nat) : noHeap (part t cs off) := by
  refine noHeap_bind' _ _ (noHeap_isAgg t) fun b => ?_
  split
  · exact noHeap_bind' _ _ (noHeap_sizeOf t) fun _ => trivial
  · split <;> trivial
theorem noHeap_boundsPanic {α : Type} (k : IntKind) (x y : Int) (c : BoundsCode) : noHeap (boundsPanic k x y c : Sem α) := by
  have hp : ∀ a b c d, noHeap (runtimePanic (.bounds a b c d) : Sem α) := fun a b c d p => trivial
  unfold boundsPanic
  dsimp only
  split
  · exact noHeap_bind' _ _ (noHeap_bind (choose _) (fun x => Sem.pure (x == 1)) (fun n => trivial) fun _ => trivial) fun _ => hp _ _ _ _
  · exact noHeap_bind' _ _ trivial fun _ => hp _ _ _ _

theorem heapFree_spec {o : Oper} (h : heapFree o.op = true) (f : Operand → Value) : noHeap (execOp f o) := by
  obtain ⟨dst, op, type, pos, after, guard⟩ := o
  cases op <;> simp only [heapFree, Bool.false_eq_true] at h <;> simp only [execOp]
  case move x => trivial
  case assign x => trivial
  case pick c a b => exact noHeap_bind' _ _ (noHeap_asBool _) fun b => by trivial
  case makeFunc fn fs cs => exact noHeap_bind' _ _ trivial fun _ => trivial
  case unOp op t x =>
    refine noHeap_bind' _ _ ?_ fun _ => trivial
    unfold Op.unary
    split <;> first | trivial | (split <;> trivial)
  case field t x i =>
    refine noHeap_bind' _ _ (noHeap_bind' _ _ (noHeap_underlying t) fun d => ?_) fun _ => trivial
    split
    · split
      · exact noHeap_bind' _ _ (noHeap_asAgg _) fun _ => noHeap_part _ _ _
      · trivial
    · trivial
  case index t x i =>
    refine noHeap_bind' _ _ (noHeap_bind' _ _ (noHeap_asIntOf _) fun d => noHeap_bind' _ _ (noHeap_underlying t) fun d' => ?_) fun _ => trivial
    split
    · split
      · exact noHeap_bind' _ _ (noHeap_sizeOf _) fun _ => noHeap_part _ _ _
      · exact noHeap_boundsPanic _ _ _ _
    · split
      · trivial
      · exact noHeap_boundsPanic _ _ _ _
    · trivial
  case extract t ix =>
    refine noHeap_bind' _ _ ?_ fun _ => trivial
    unfold Instr.extract
    split
    · split <;> trivial
    · trivial
end Go.Vc
namespace Go.Vc
set_option linter.unusedSimpArgs false
set_option linter.unusedVariables false

def depsOf (ops : Array Oper) (i : Nat) : List Nat :=
  match ops[i]? with
  | some o => (o.after.toList.filter (Region.binds .any ·)).map (·.on)
  | none => []
def dd : List Nat → List Nat → List Nat
  | _, [] => []
  | seen, x :: r => if seen.contains x then dd seen r else x :: dd (x :: seen) r
theorem mem_dd : ∀ (l seen : List Nat) (x : Nat), x ∈ dd seen l → x ∈ l := by
  intro l
  induction l with
  | nil => intro seen x h; exact h
  | cons y r ih =>
    intro seen x h
    simp only [dd] at h
    split at h
    · exact List.mem_cons_of_mem _ (ih _ _ h)
    · rcases List.mem_cons.1 h with h | h
      · rw [h]; exact List.mem_cons_self
      · exact List.mem_cons_of_mem _ (ih _ _ h)
def grow (ops : Array Oper) : Nat → List Nat → List Nat
  | 0, l => l
  | f + 1, l =>
    match dd l (l.flatMap (depsOf ops)) with
    | [] => l
    | new => grow ops f (l ++ new)
def clos (ops : Array Oper) (i : Nat) : List Nat := grow ops ops.size (depsOf ops i)

theorem mem_grow {ops : Array Oper} {p : Nat → Prop} (hp : ∀ x, p x → ∀ y ∈ depsOf ops x, p y) : ∀ (f : Nat) (l : List Nat), (∀ x ∈ l, p x) → ∀ x ∈ grow ops f l, p x := by
  intro f
  induction f with
  | zero => intro l h; exact h
  | succ f ih =>
    intro l h x hx
    simp only [grow] at hx
    split at hx
    · exact h x hx
    · refine ih _ ?_ x hx
      intro y hy
      rcases List.mem_append.1 hy with hy | hy
      · exact h y hy
      · obtain ⟨z, hz, hyz⟩ := List.mem_flatMap.1 (mem_dd _ _ _ hy)
        exact hp z (h z hz) y hyz
theorem mem_clos {ops : Array Oper} {p : Nat → Prop} (hp : ∀ x, p x → ∀ y ∈ depsOf ops x, p y) {i : Nat} (hi : ∀ y ∈ depsOf ops i, p y) : ∀ x ∈ clos ops i, p x :=
  mem_grow hp _ _ hi

def quietAt (P : Program) (ops : Array Oper) (i : Nat) : Bool :=
  match ops[i]? with
  | some o => quietOp P o.op
  | none => false
def freeAt (ops : Array Oper) (i : Nat) : Bool :=
  match ops[i]? with
  | some o => heapFree o.op
  | none => false
def dstAt (ops : Array Oper) (i : Nat) : Option Nat := (ops[i]?).bind (·.dst)
def looks (ops : Array Oper) (i : Nat) : List Nat :=
  match ops[i]? with
  | some o => o.looksAt ops
  | none => []
def readyB (ops : Array Oper) (V : List Nat) (i : Nat) : Bool := !V.contains i && (depsOf ops i).all fun j => V.contains j

def pickD (P : Program) (ops : Array Oper) (V : List Nat) : Option Nat :=
  match (List.range ops.size).find? (fun i => readyB ops V i && quietAt P ops i) with
  | some i => some i
  | none => (List.range ops.size).find? (readyB ops V)

def stripAt (P : Program) (L : List Nat) (n : Nat) (ops : Array Oper) (i : Nat) : Option Sop := (ops[i]?).bind (stripOp P L n ops.toList)
def stripsAt (P : Program) (L : List Nat) (n : Nat) (ops : Array Oper) : List Nat → Option (List Sop)
  | [] => some []
  | i :: r => match stripAt P L n ops i, stripsAt P L n ops r with
    | some s, some t => some (s :: t)
    | _, _ => none
def reOf (P : Program) (ops : Array Oper) (cl : List (List Nat)) (V : List Nat) (i : Nat) : List Nat :=
  V.filter fun k => quietAt P ops k && !freeAt ops k && !(cl.getD i []).contains k

def stripDraw (P : Program) (L : List Nat) (n : Nat) (ops : Array Oper) (cl : List (List Nat)) : Nat → List Nat → Option (List (Sop × List Sop))
  | 0, V => if (List.range ops.size).all (fun i => V.contains i) then some [] else none
  | f + 1, V =>
    match pickD P ops V with
    | none => if (List.range ops.size).all (fun i => V.contains i) then some [] else none
    | some i =>
      if quietAt P ops i then
        match stripAt P L n ops i, stripDraw P L n ops cl f (V ++ [i]) with
        | some s, some r => some ((s, []) :: r)
        | _, _ => none
      else if (List.range ops.size).all (fun j => j == i || !readyB ops V j) then
        match stripAt P L n ops i, stripsAt P L n ops (reOf P ops cl V i), stripDraw P L n ops cl f (V ++ [i]) with
        | some s, some re, some r => some ((s, re) :: r)
        | _, _, _ => none
      else none

def drawOk (P : Program) (n : Nat) (ops : Array Oper) (cl : List (List Nat)) : Bool :=
  (List.range ops.size).all fun j =>
    match dstAt ops j with
    | none => true
    | some t => decide (t < n) && (List.range ops.size).all fun k =>
        (j == k || dstAt ops k != some t) &&
        (!(looks ops k).contains t || (j != k && ((cl.getD k []).contains j || ((cl.getD j []).contains k && (List.range ops.size).all fun p => quietAt P ops p || p == j || (cl.getD j []).contains p))))

def closAll (ops : Array Oper) : List (List Nat) := (List.range ops.size).map (clos ops)

theorem closAll_getD {ops : Array Oper} {i : Nat} (h : i < ops.size) : (closAll ops).getD i [] = clos ops i := by
  simp [closAll, h]

structure DrawOk (P : Program) (n : Nat) (ops : Array Oper) : Prop where
  d1 : ∀ j k t, dstAt ops j = some t → dstAt ops k = some t → j = k
  d2 : ∀ j t, dstAt ops j = some t → t < n
  d3 : ∀ j k t, dstAt ops j = some t → t ∈ looks ops k → j ≠ k ∧ (j ∈ clos ops k ∨ (k ∈ clos ops j ∧ ∀ p, p < ops.size → quietAt P ops p = true ∨ p = j ∨ p ∈ clos ops j))

theorem dstAt_lt {ops : Array Oper} {j t : Nat} (h : dstAt ops j = some t) : j < ops.size := by
  rcases Nat.lt_or_ge j ops.size with h' | h'
  · exact h'
  · simp [dstAt, Array.getElem?_eq_none h'] at h
theorem looks_lt {ops : Array Oper} {j t : Nat} (h : t ∈ looks ops j) : j < ops.size := by
  rcases Nat.lt_or_ge j ops.size with h' | h'
  · exact h'
  · simp [looks, Array.getElem?_eq_none h'] at h

theorem drawOk_spec {P : Program} {n : Nat} {ops : Array Oper} (h : drawOk P n ops (closAll ops) = true) : DrawOk P n ops := by
  unfold drawOk at h
  rw [List.all_eq_true] at h
  have key : ∀ j t, dstAt ops j = some t → t < n ∧ ∀ k, k < ops.size →
      (j = k ∨ dstAt ops k ≠ some t) ∧ (t ∉ looks ops k ∨ (j ≠ k ∧ (j ∈ clos ops k ∨ (k ∈ clos ops j ∧ ∀ p, p < ops.size → quietAt P ops p = true ∨ p = j ∨ p ∈ clos ops j)))) := by
    intro j t hj
    have hlt := dstAt_lt hj
    have := h j (List.mem_range.2 hlt)
    rw [hj] at this
    simp only [Bool.and_eq_true, decide_eq_true_eq, List.all_eq_true, List.mem_range] at this
    refine ⟨this.1, fun k hk => ?_⟩
    have h2 := this.2 k hk
    simp only [Bool.and_eq_true, Bool.or_eq_true, beq_iff_eq, bne_iff_ne, Bool.not_eq_true', List.all_eq_true, List.mem_range, closAll_getD hk, closAll_getD hlt, List.contains_eq_mem, decide_eq_true_eq, decide_eq_false_iff_not] at h2
    refine ⟨h2.1, ?_⟩
    rcases h2.2 with h3 | ⟨h3, h4⟩
    · exact .inl h3
    · refine .inr ⟨h3, ?_⟩
      rcases h4 with h4 | ⟨h4, h5⟩
      · exact .inl h4
      · exact .inr ⟨h4, fun p hp => by rcases h5 p hp with (h6 | h6) | h6; exact .inl h6; exact .inr (.inl h6); exact .inr (.inr h6)⟩
  refine ⟨?_, fun j t hj => (key j t hj).1, ?_⟩
  · intro j k t hj hk
    rcases ((key j t hj).2 k (dstAt_lt hk)).1 with h1 | h1
    · exact h1
    · exact absurd hk h1
  · intro j k t hj hk
    rcases ((key j t hj).2 k (looks_lt hk)).2 with h1 | h1
    · exact absurd hk h1
    · exact h1

/-! ### Frames that hold what some operations yielded -/

structure FrameOf (ops : Array Oper) (S : Nat → Prop) (val : Nat → Value) (a0 a : Act) : Prop where
  df : a.defers = a0.defers
  sz : a.tmps.size = a0.tmps.size
  yes : ∀ j t, S j → dstAt ops j = some t → a.tmps[t]? = some (val j)
  no : ∀ t, (∀ j, S j → dstAt ops j ≠ some t) → a.tmps[t]? = a0.tmps[t]?

def upd (val : Nat → Value) (i : Nat) (v : Value) : Nat → Value := fun j => if j = i then v else val j

section
variable {P : Program} {L : List Nat} {n : Nat} {ops : Array Oper} {Q : Exit → Act → World → Prop}

theorem FrameOf.put (D : DrawOk P n ops) {S S' : Nat → Prop} {val : Nat → Value} {a0 a : Act} (H : FrameOf ops S val a0 a) (hn : a0.tmps.size = n) {i : Nat} (hi : ¬ S i) (hS : ∀ j, S' j ↔ (S j ∨ j = i)) (v : Value)
    {val' : Nat → Value} (hv : val' i = v) (hvs : ∀ j, S j → val' j = val j) : FrameOf ops S' val' a0 (a.put (dstAt ops i) v) := by
  cases hd : dstAt ops i with
  | none =>
    refine ⟨H.df, H.sz, ?_, ?_⟩
    · intro j t hj ht
      rcases (hS j).1 hj with h | h
      · rw [hvs j h]; exact H.yes j t h ht
      · subst h; rw [hd] at ht; cases ht
    · intro t ht
      exact H.no t fun j hj => ht j ((hS j).2 (.inl hj))
  | some d =>
    have hlt : d < a.tmps.size := by rw [H.sz, hn]; exact D.d2 i d hd
    have hget : ∀ u, (a.put (some d) v).tmps[u]? = if d = u then some v else a.tmps[u]? := by
      intro u
      simp only [Act.put, Array.getElem?_setIfInBounds]
      by_cases h : d = u
      · subst h; simp [hlt]
      · simp [h]
    refine ⟨H.df, by simp [Act.put, H.sz], ?_, ?_⟩
    · intro j t hj ht
      rw [hget]
      rcases (hS j).1 hj with h | h
      · have : d ≠ t := fun e => by subst e; exact hi ((D.d1 j i d ht hd) ▸ h)
        rw [if_neg this, hvs j h]; exact H.yes j t h ht
      · subst h; rw [hd] at ht; cases ht; rw [if_pos rfl, hv]
    · intro t ht
      have : d ≠ t := fun e => by subst e; exact ht i ((hS i).2 (.inr rfl)) hd
      rw [hget, if_neg this]
      exact H.no t fun j hj => ht j ((hS j).2 (.inl hj))

/-- The arguments that operation k is to see. -/
def CA (ops : Array Oper) (val : Nat → Value) (a0 : Act) (k : Nat) (b : Act) : Prop :=
  ∀ t ∈ looks ops k, (∀ j, dstAt ops j = some t → j ∈ clos ops k → b.tmps[t]? = some (val j)) ∧ ((∀ j, dstAt ops j = some t → j ∉ clos ops k) → b.tmps[t]? = a0.tmps[t]?)

theorem FrameOf.ca (D : DrawOk P n ops) {S : Nat → Prop} {val : Nat → Value} {a0 a : Act} (H : FrameOf ops S val a0 a) {k : Nat} (hk : ∀ j ∈ clos ops k, S j)
    (hn : ∀ j t, S j → dstAt ops j = some t → t ∈ looks ops k → j ∈ clos ops k) : CA ops val a0 k a := by
  intro t ht
  refine ⟨fun j hj hc => H.yes j t (hk j hc) hj, fun hno => H.no t fun j hj hd => hno j hd (hn j t hj hd ht)⟩

theorem CA.same (D : DrawOk P n ops) {val : Nat → Value} {a0 a b : Act} {k : Nat} (ha : CA ops val a0 k a) (hb : CA ops val a0 k b) : ∀ t ∈ looks ops k, a.tmps[t]? = b.tmps[t]? := by
  intro t ht
  by_cases h : ∃ j, dstAt ops j = some t ∧ j ∈ clos ops k
  · obtain ⟨j, h1, h2⟩ := h
    rw [(ha t ht).1 j h1 h2, (hb t ht).1 j h1 h2]
  · have : ∀ j, dstAt ops j = some t → j ∉ clos ops k := fun j h1 h2 => h ⟨j, h1, h2⟩
    rw [(ha t ht).2 this, (hb t ht).2 this]

theorem CA.val (D : DrawOk P n ops) {val val' : Nat → Value} {a0 b : Act} {k : Nat} (h : CA ops val a0 k b) (hv : ∀ j ∈ clos ops k, val' j = val j) : CA ops val' a0 k b := by
  intro t ht
  refine ⟨fun j hj hc => by rw [hv j hc]; exact (h t ht).1 j hj hc, (h t ht).2⟩

/-- Operation k yields v, seen from frame b over heap h. -/
def YA (P : Program) (ops : Array Oper) (k : Nat) (v : Value) (b : Act) (h : Heap) : Prop :=
  ∀ o, ops[k]? = some o → (Region.wanted o (yielded ops b.tmps) = true ∧ rd P (execOp b.eval o) h = some (.value v)) ∨ (Region.wanted o (yielded ops b.tmps) = false ∧ v = undef)

theorem eval_congr {a b : Act} {x : Operand} (h : ∀ t, x = .tmp t → a.tmps[t]? = b.tmps[t]?) : a.eval x = b.eval x := by
  cases x with
  | tmp t => simp [Act.eval, h t rfl]
  | _ => rfl

theorem exec_congr {a b : Act} {k : Nat} {o : Oper} (ho : ops[k]? = some o) (hsel : noSel o.op = true) (h : ∀ t ∈ looks ops k, a.tmps[t]? = b.tmps[t]?) : execOp a.eval o = execOp b.eval o := by
  refine execOp_congr o ?_ ?_
  · intro cs c e; rw [e] at hsel; simp [noSel] at hsel
  · intro x hx
    refine eval_congr fun t ht => h t ?_
    subst ht
    simp only [looks, ho, Oper.looksAt]
    exact List.mem_append_left _ (List.mem_filterMap.2 ⟨.tmp t, by simpa using hx, rfl⟩)

theorem wanted_congr {a b : Act} {k : Nat} {o : Oper} (ho : ops[k]? = some o) (h : ∀ t ∈ looks ops k, a.tmps[t]? = b.tmps[t]?) : Region.wanted o (yielded ops a.tmps) = Region.wanted o (yielded ops b.tmps) := by
  unfold Region.wanted
  cases hg : o.guard with
  | none => rfl
  | some gw =>
    obtain ⟨g, want⟩ := gw
    have : yielded ops a.tmps g = yielded ops b.tmps g := by
      unfold yielded
      cases ht : (ops[g]?).bind (·.dst) with
      | none => rfl
      | some t =>
        have := h t (by simp [looks, ho, Oper.looksAt, hg, ht])
        simp [this]
    simp only [this]

theorem YA.congr {k : Nat} {v : Value} {a b : Act} {h : Heap} (hsel : ∀ o, ops[k]? = some o → noSel o.op = true) (hl : ∀ t ∈ looks ops k, a.tmps[t]? = b.tmps[t]?) (H : YA P ops k v a h) : YA P ops k v b h := by
  intro o ho
  rw [← wanted_congr ho hl, ← exec_congr ho (hsel o ho) hl]
  exact H o ho

theorem YA.free {k : Nat} {v : Value} {b : Act} {h h' : Heap} (hf : freeAt ops k = true) (H : YA P ops k v b h) : YA P ops k v b h' := by
  intro o ho
  simp only [freeAt, ho] at hf
  rw [rd_noHeap _ (heapFree_spec hf _) h' h]
  exact H o ho

/-! ### The canonical order is down-closed -/

inductive OrdV (ops : Array Oper) : List Nat → Prop where
  | nil : OrdV ops []
  | snoc (V : List Nat) (i : Nat) : OrdV ops V → (∀ j ∈ depsOf ops i, j ∈ V) → OrdV ops (V ++ [i])

theorem OrdV.down {V : List Nat} (H : OrdV ops V) : ∀ i ∈ V, ∀ j ∈ depsOf ops i, j ∈ V := by
  induction H with
  | nil => intro i hi; cases hi
  | snoc V i _ hd ih =>
    intro k hk j hj
    rcases List.mem_append.1 hk with hk | hk
    · exact List.mem_append_left _ (ih k hk j hj)
    · simp at hk; subst hk; exact List.mem_append_left _ (hd j hj)

theorem OrdV.first {V : List Nat} (H : OrdV ops V) (p : Nat → Prop) (h : ∃ k ∈ V, ¬ p k) : ∃ k ∈ V, ¬ p k ∧ ∀ j ∈ depsOf ops k, p j := by
  induction H with
  | nil => obtain ⟨k, hk, _⟩ := h; cases hk
  | snoc V i _ hd ih =>
    by_cases hV : ∃ k ∈ V, ¬ p k
    · obtain ⟨k, h1, h2⟩ := ih hV
      exact ⟨k, List.mem_append_left _ h1, h2⟩
    · obtain ⟨k, hk, hp⟩ := h
      rcases List.mem_append.1 hk with hk | hk
      · exact absurd ⟨k, hk, hp⟩ hV
      · simp at hk; subst hk
        refine ⟨k, by simp, hp, fun j hj => ?_⟩
        exact Classical.byContradiction fun hpj => hV ⟨j, hd j hj, hpj⟩

theorem readyB_spec {V : List Nat} {i : Nat} : readyB ops V i = true ↔ i ∉ V ∧ ∀ j ∈ depsOf ops i, j ∈ V := by
  simp [readyB]

theorem mem_depsOf {i j : Nat} : j ∈ depsOf ops i ↔ ∃ o, ops[i]? = some o ∧ ∃ e ∈ o.after, Region.binds .any e = true ∧ e.on = j := by
  unfold depsOf
  cases ops[i]? with
  | none => simp
  | some o => simp [and_assoc]

theorem ready_spec {listed : Array Bool} (hl : listed.size = ops.size) {i : Nat} : i ∈ Region.ready .any ops listed ↔ i < ops.size ∧ listed.getD i false = false ∧ ∀ j ∈ depsOf ops i, listed.getD j false = true := by
  rw [mem_ready]
  constructor
  · rintro ⟨h1, o, ho, h2⟩
    have hi : i < ops.size := by
      rcases Nat.lt_or_ge i ops.size with h' | h'
      · exact h'
      · simp [Array.getElem?_eq_none h'] at ho
    refine ⟨hi, ?_, ?_⟩
    · have : i < listed.size := by omega
      simp [this] at h1 ⊢; exact h1
    · intro j hj
      obtain ⟨o', ho', e, he, hb, rfl⟩ := mem_depsOf.1 hj
      rw [ho] at ho'; cases ho'
      exact h2 e he hb
  · rintro ⟨hi, h1, h2⟩
    have hi' : i < listed.size := by omega
    refine ⟨?_, ops[i], by simp [hi], fun e he hb => h2 _ (mem_depsOf.2 ⟨ops[i], by simp [hi], e, he, hb, rfl⟩)⟩
    simp [hi'] at h1 ⊢; exact h1

end
end Go.Vc
namespace Go.Vc
set_option linter.unusedSimpArgs false
set_option linter.unusedVariables false

section
variable {P : Program} {L : List Nat} {n : Nat} {ops : Array Oper} {Q : Exit → Act → World → Prop}

structure Inv (P : Program) (L : List Nat) (n : Nat) (ops : Array Oper) (listed : Array Bool) (a : Act) (h : Heap) (V : List Nat) (val : Nat → Value) (a0 av : Act) (τ ρ : Env) : Prop where
  lsz : listed.size = ops.size
  nz : a0.tmps.size = n
  sel : ∀ o ∈ ops, noSel o.op = true
  lV : ∀ i, listed.getD i false = true → i ∈ V
  Vr : ∀ i ∈ V, i < ops.size
  wl : ∀ i ∈ V, quietAt P ops i = false → listed.getD i false = true
  ldc : ∀ i, listed.getD i false = true → ∀ j ∈ depsOf ops i, listed.getD j false = true
  ord : OrdV ops V
  fa : FrameOf ops (fun i => listed.getD i false = true) val a0 a
  fv : FrameOf ops (fun i => i ∈ V) val a0 av
  ag : Ag L n av τ ρ
  pend : ∀ k ∈ V, listed.getD k false = false → ∃ b, CA ops val a0 k b ∧ YA P ops k (val k) b h

theorem stripAt_spec {i : Nat} {s : Sop} (h : stripAt P L n ops i = some s) : ∃ o, ops[i]? = some o ∧ stripOp P L n ops.toList o = some s := by
  unfold stripAt at h
  cases ho : ops[i]? with
  | none => rw [ho] at h; cases h
  | some o => rw [ho] at h; exact ⟨o, rfl, h⟩

theorem lk_evd {a : Act} {τ ρ : Env} (H : Ag L n a τ ρ) (x : Operand) (hx : (evo τ ρ x).isSome = true) : a.eval x = evd τ ρ x := H.evd hx

/-- One quiet operation, out of its transformer. -/
theorem quiet_one {i : Nat} {o : Oper} {s : Sop} {av : Act} {τ ρ : Env} {h : Heap} {N : Env → Env → Heap → Prop} (ho : ops[i]? = some o) (hs : stripOp P L n ops.toList o = some s) (hq : quietAt P ops i = true)
    (H : Ag L n av τ ρ) (hv : vcOne P s τ ρ h N) : ∃ v, YA P ops i v av h ∧ N (putT s.dst v τ) (putR s.dst v ρ) h := by
  obtain ⟨e1, e2, e3, e4, hd, hg⟩ := stripOp_spec hs
  have hqo : s.q = true := by simp only [quietAt, ho] at hq; rw [e4]; exact hq
  have run : vcRun P s τ ρ h N → ∃ v, rd P (execOp av.eval o) h = some (.value v) ∧ N (putT s.dst v τ) (putR s.dst v ρ) h := by
    intro hv
    unfold vcRun at hv
    rw [if_pos hqo] at hv
    cases hr : rdOp P s τ ρ h with
    | none => rw [hr] at hv; exact hv.elim
    | some v =>
      rw [hr] at hv
      refine ⟨v, ?_, hv⟩
      unfold rdOp at hr
      split at hr
      · rename_i hk
        have he : execOp av.eval o = execOp (evd τ ρ) s.oper := by
          rw [← execOp_oper _ o s e1 e2]
          refine execOp_congr o ?_ ?_
          · intro cs b e; rw [e] at e3; simp [noSel] at e3
          · intro x hx; exact H.evd (hk x (by rw [e1]; exact hx))
        rw [he]
        cases hx : rd P (execOp (evd τ ρ) s.oper) h with
        | none => rw [hx] at hr; cases hr
        | some nx =>
          rw [hx] at hr
          cases nx <;> simp only [valOf] at hr <;> first | cases hr | skip
          rfl
      · cases hr
  unfold vcOne at hv
  rcases hg with ⟨g1, g2⟩ | ⟨j, want, g, g1, g2, g3⟩
  · rw [g2] at hv
    obtain ⟨v, h1, h2⟩ := run hv
    refine ⟨v, fun o' ho' => ?_, h2⟩
    rw [ho] at ho'; cases ho'
    exact .inl ⟨by simp [Region.wanted, g1], h1⟩
  · rw [g3] at hv
    cases hl : lk τ ρ g with
    | none => simp only [hl] at hv
    | some x =>
      simp only [hl] at hv
      have hw := wanted_eq H g1 g2 hl
      by_cases hb : asB x = some want
      · rw [if_pos hb] at hv
        obtain ⟨v, h1, h2⟩ := run hv
        refine ⟨v, fun o' ho' => ?_, h2⟩
        rw [ho] at ho'; cases ho'
        exact .inl ⟨hw.2 hb, h1⟩
      · rw [if_neg hb] at hv
        refine ⟨undef, fun o' ho' => ?_, hv⟩
        rw [ho] at ho'; cases ho'
        refine .inr ⟨?_, rfl⟩
        cases hx : Region.wanted o (yielded ops av.tmps) with
        | false => rfl
        | true => exact absurd (hw.1 hx) hb

theorem dstAt_of {i : Nat} {o : Oper} (ho : ops[i]? = some o) : dstAt ops i = o.dst := by simp [dstAt, ho]

theorem Inv.grow (D : DrawOk P n ops) {listed : Array Bool} {a : Act} {h : Heap} {V : List Nat} {val : Nat → Value} {a0 av : Act} {τ ρ : Env} (I : Inv P L n ops listed a h V val a0 av τ ρ)
    {i : Nat} {o : Oper} {s : Sop} {v : Value} (ho : ops[i]? = some o) (hs : stripOp P L n ops.toList o = some s) (hr : readyB ops V i = true) (hq : quietAt P ops i = true) (hy : YA P ops i v av h) :
    Inv P L n ops listed a h (V ++ [i]) (upd val i v) a0 (av.put o.dst v) (putT s.dst v τ) (putR s.dst v ρ) := by
  obtain ⟨hi, hdeps⟩ := readyB_spec.1 hr
  obtain ⟨e1, e2, e3, e4, hd, hg⟩ := stripOp_spec hs
  have hil : listed.getD i false = false := by
    cases hx : listed.getD i false with
    | false => rfl
    | true => exact absurd (I.lV i hx) hi
  have hclV : ∀ j ∈ clos ops i, j ∈ V := mem_clos (p := (· ∈ V)) (fun x hx y hy => I.ord.down x hx y hy) hdeps
  have hne : ∀ j ∈ V, j ≠ i := fun j hj e => hi (e ▸ hj)
  refine ⟨I.lsz, I.nz, I.sel, fun j hj => List.mem_append_left _ (I.lV j hj), ?_, ?_, I.ldc, .snoc V i I.ord hdeps, ?_, ?_, I.ag.putS hd v, ?_⟩
  · intro j hj
    rcases List.mem_append.1 hj with hj | hj
    · exact I.Vr j hj
    · simp at hj; subst hj
      rcases Nat.lt_or_ge j ops.size with h' | h'
      · exact h'
      · simp [Array.getElem?_eq_none h'] at ho
  · intro j hj hqj
    rcases List.mem_append.1 hj with hj | hj
    · exact I.wl j hj hqj
    · simp at hj; subst hj; rw [hq] at hqj; cases hqj
  · refine ⟨I.fa.df, I.fa.sz, ?_, I.fa.no⟩
    intro j t hj ht
    have : j ≠ i := hne j (I.lV j hj)
    simp only [upd, this, if_false]
    exact I.fa.yes j t hj ht
  · rw [← dstAt_of ho]
    refine I.fv.put D I.nz hi (fun j => by simp) v (by simp [upd]) fun j hj => by simp [upd, hne j hj]
  · intro k hk hkl
    rcases List.mem_append.1 hk with hk | hk
    · obtain ⟨b, h1, h2⟩ := I.pend k hk hkl
      have hkc : ∀ j ∈ clos ops k, j ∈ V := mem_clos (p := (· ∈ V)) (fun x hx y hy => I.ord.down x hx y hy) (I.ord.down k hk)
      refine ⟨b, h1.val D fun j hj => by simp [upd, hne j (hkc j hj)], ?_⟩
      simp only [upd, hne k hk, if_false]; exact h2
    · simp at hk; subst hk
      refine ⟨av, ?_, ?_⟩
      · have hca : CA ops val a0 k av := I.fv.ca D hclV fun j t hj hjt htk => by
          rcases (D.d3 j k t hjt htk).2 with h1 | ⟨h1, _⟩
          · exact h1
          · exact absurd (mem_clos (p := (· ∈ V)) (fun x hx y hy => I.ord.down x hx y hy) (I.ord.down j hj) k h1) hi
        exact hca.val D fun j hj => by simp [upd, hne j (hclV j hj)]
      · simp only [upd, if_true]; exact hy

theorem pickD_spec {V : List Nat} {i : Nat} (h : pickD P ops V = some i) : i < ops.size ∧ readyB ops V i = true ∧
    (quietAt P ops i = false → ∀ j, j < ops.size → readyB ops V j = true → quietAt P ops j = false) := by
  unfold pickD at h
  split at h
  · rename_i k hk
    cases h
    have h1 := List.find?_some hk
    have h2 := List.mem_of_find?_eq_some hk
    simp only [Bool.and_eq_true] at h1
    exact ⟨List.mem_range.1 h2, h1.1, fun h => by rw [h1.2] at h; cases h⟩
  · rename_i hk
    have h1 := List.find?_some h
    have h2 := List.mem_of_find?_eq_some h
    refine ⟨List.mem_range.1 h2, h1, fun _ j hj hr => ?_⟩
    have := List.find?_eq_none.1 hk j (List.mem_range.2 hj)
    simp only [Bool.and_eq_true, not_and] at this
    simpa using this hr
theorem pickD_none {V : List Nat} (h : pickD P ops V = none) {j : Nat} (hj : j < ops.size) : readyB ops V j = false := by
  unfold pickD at h
  split at h
  · cases h
  · have := List.find?_eq_none.1 h j (List.mem_range.2 hj)
    simpa using this

/-- All quiet operations that may come up now are taken. -/
theorem saturate (D : DrawOk P n ops) {K : Env → Heap → Prop} {listed : Array Bool} {a a0 : Act} {h : Heap} : ∀ (f : Nat) (V : List Nat) (val : Nat → Value) (av : Act) (τ ρ : Env) (rest : List (Sop × List Sop)),
    Inv P L n ops listed a h V val a0 av τ ρ → stripDraw P L n ops (closAll ops) f V = some rest → vcDraw P K rest τ ρ h →
    ∃ f' V' val' av' τ' ρ' rest', Inv P L n ops listed a h V' val' a0 av' τ' ρ' ∧ stripDraw P L n ops (closAll ops) f' V' = some rest' ∧ vcDraw P K rest' τ' ρ' h ∧
      (∀ i, i < ops.size → readyB ops V' i = true → quietAt P ops i = false) := by
  intro f
  induction f with
  | zero =>
    intro V val av τ ρ rest I hs hv
    refine ⟨0, V, val, av, τ, ρ, rest, I, hs, hv, ?_⟩
    intro i hi hr
    simp only [stripDraw] at hs
    split at hs
    · rename_i hall
      rw [List.all_eq_true] at hall
      have := hall i (List.mem_range.2 hi)
      exact absurd (by simpa using this) (readyB_spec.1 hr).1
    · cases hs
  | succ f ih =>
    intro V val av τ ρ rest I hs hv
    cases hp : pickD P ops V with
    | none => exact ⟨f + 1, V, val, av, τ, ρ, rest, I, hs, hv, fun i hi hr => by rw [pickD_none hp hi] at hr; cases hr⟩
    | some i =>
      obtain ⟨hi, hr, hw⟩ := pickD_spec hp
      cases hq : quietAt P ops i with
      | false => exact ⟨f + 1, V, val, av, τ, ρ, rest, I, hs, hv, hw hq⟩
      | true =>
        simp only [stripDraw, hp, hq, if_true] at hs
        split at hs
        · rename_i s r h1 h2
          cases hs
          obtain ⟨o, ho, hso⟩ := stripAt_spec h1
          simp only [vcDraw] at hv
          obtain ⟨v, hy, _, hN⟩ := quiet_one ho hso hq I.ag hv
          exact ih (V ++ [i]) (upd val i v) (av.put o.dst v) _ _ r (I.grow D ho hso hr hq hy) h2 hN
        · cases hs

theorem getD_set_self {listed : Array Bool} {i : Nat} (hi : i < listed.size) : (listed.setIfInBounds i true).getD i false = true := by
  simp [hi]
theorem getD_set_iff {listed : Array Bool} {i j : Nat} (hi : i < listed.size) : (listed.setIfInBounds i true).getD j false = true ↔ (listed.getD j false = true ∨ j = i) := by
  by_cases h : j = i
  · subst h; simp [hi]
  · rw [getD_set_ne false (Ne.symm h)]; simp [h]

def cnt (listed : Array Bool) : Nat := listed.toList.count false
theorem cnt_set {listed : Array Bool} {i : Nat} (hi : i < listed.size) (hf : listed.getD i false = false) : cnt (listed.setIfInBounds i true) + 1 = cnt listed := by
  unfold cnt
  have h1 : i < listed.toList.length := by simpa using hi
  have h2 : listed.toList[i] = false := by
    have : listed.getD i false = listed[i] := by simp [hi]
    rw [this] at hf; simpa using hf
  have hpos : 0 < listed.toList.count false := List.count_pos_iff.2 (h2 ▸ List.getElem_mem h1)
  rw [Array.toList_setIfInBounds, List.count_set h1, h2]
  rw [if_pos (by decide), if_neg (by decide)]
  omega

theorem Inv.list (D : DrawOk P n ops) {listed : Array Bool} {a : Act} {h : Heap} {V : List Nat} {val : Nat → Value} {a0 av : Act} {τ ρ : Env} (I : Inv P L n ops listed a h V val a0 av τ ρ)
    {i : Nat} (hiV : i ∈ V) (hil : listed.getD i false = false) (hdl : ∀ j ∈ depsOf ops i, listed.getD j false = true) :
    Inv P L n ops (listed.setIfInBounds i true) (a.put (dstAt ops i) (val i)) h V val a0 av τ ρ := by
  have hi : i < listed.size := by rw [I.lsz]; exact I.Vr i hiV
  refine ⟨by simp [I.lsz], I.nz, I.sel, ?_, I.Vr, ?_, ?_, I.ord, ?_, I.fv, I.ag, ?_⟩
  · intro j hj
    rcases (getD_set_iff hi).1 hj with h | h
    · exact I.lV j h
    · exact h ▸ hiV
  · intro j hj hq
    exact (getD_set_iff hi).2 (.inl (I.wl j hj hq))
  · intro j hj k hk
    refine (getD_set_iff hi).2 (.inl ?_)
    rcases (getD_set_iff hi).1 hj with h | h
    · exact I.ldc j h k hk
    · exact hdl k (h ▸ hk)
  · exact I.fa.put D I.nz (by simp [hil]) (fun j => getD_set_iff hi) (val i) rfl fun _ _ => rfl
  · intro k hk hkl
    refine I.pend k hk ?_
    cases hx : listed.getD k false with
    | false => rfl
    | true => rw [(getD_set_iff hi).2 (.inl hx)] at hkl; cases hkl

theorem stripsAt_mem : ∀ {l : List Nat} {r : List Sop}, stripsAt P L n ops l = some r → ∀ i ∈ l, ∃ s ∈ r, stripAt P L n ops i = some s := by
  intro l
  induction l with
  | nil => intro r _ i hi; cases hi
  | cons j l ih =>
    intro r h i hi
    simp only [stripsAt] at h
    split at h
    · rename_i s t h1 h2
      cases h
      rcases List.mem_cons.1 hi with hi | hi
      · exact ⟨s, List.mem_cons_self, hi ▸ h1⟩
      · obtain ⟨x, hx, hy⟩ := ih h2 i hi
        exact ⟨x, List.mem_cons_of_mem _ hx, hy⟩
    · cases h
theorem stills_mem : ∀ {l : List Sop} {τ ρ : Env} {h : Heap}, stills P l τ ρ h → ∀ x ∈ l, still P x τ ρ h := by
  intro l
  induction l with
  | nil => intro τ ρ h _ x hx; cases hx
  | cons y l ih =>
    intro τ ρ h H x hx
    rcases List.mem_cons.1 hx with hx | hx
    · exact hx ▸ H.1
    · exact ih H.2 x hx

/-- A pending operation that was looked at again. -/
theorem YA.again {k : Nat} {v : Value} {b av : Act} {τ ρ : Env} {h h' : Heap} {s : Sop} {o : Oper} (ho : ops[k]? = some o) (hs : stripOp P L n ops.toList o = some s)
    (H : Ag L n av τ ρ) (hval : ∀ t, o.dst = some t → av.tmps[t]? = some v) (hl : ∀ t ∈ looks ops k, b.tmps[t]? = av.tmps[t]?) (hst : still P s τ ρ h') (hy : YA P ops k v b h) : YA P ops k v b h' := by
  obtain ⟨e1, e2, e3, e4, hd, hg⟩ := stripOp_spec hs
  rcases hd with ⟨_, hd⟩ | ⟨t, hd, htn, hds⟩
  · unfold still at hst; rw [hd] at hst; exact hst.elim
  · intro o' ho'
    rw [ho] at ho'; cases ho'
    rcases hy o ho with ⟨hw, hr⟩ | hw
    · refine .inl ⟨hw, ?_⟩
      have hwav : Region.wanted o (yielded ops av.tmps) = true := by rw [← wanted_congr ho hl]; exact hw
      have core : rdOp P s τ ρ h' = lk τ ρ t ∧ (lk τ ρ t).isSome = true := by
        unfold still at hst
        rw [hds] at hst
        simp only [] at hst
        rcases hg with ⟨g1, g2⟩ | ⟨j, want, g, g1, g2, g3⟩
        · rw [g2] at hst; exact hst
        · rw [g3] at hst
          simp only [] at hst
          cases hl' : lk τ ρ g with
          | none => rw [hl'] at hst; exact hst.elim
          | some x => rw [hl'] at hst; exact hst ((wanted_eq H g1 g2 hl').1 hwav)
      obtain ⟨u, hu⟩ := Option.isSome_iff_exists.1 core.2
      have huv : u = v := by
        have h1 := H.lk hu
        rw [hval t hd] at h1
        exact (Option.some.inj h1).symm
      subst huv
      have c1 := core.1
      rw [hu] at c1
      unfold rdOp at c1
      split at c1
      · rename_i hk
        have he : execOp b.eval o = execOp (evd τ ρ) s.oper := by
          rw [exec_congr ho e3 hl, ← execOp_oper _ o s e1 e2]
          refine execOp_congr o ?_ ?_
          · intro cs b e; rw [e] at e3; simp [noSel] at e3
          · intro x hx; exact H.evd (hk x (by rw [e1]; exact hx))
        rw [he]
        cases hx : rd P (execOp (evd τ ρ) s.oper) h' with
        | none => rw [hx] at c1; cases c1
        | some nx =>
          rw [hx] at c1
          cases nx <;> simp only [valOf] at c1 <;> first | (cases c1; done) | skip
          rw [Option.some.inj c1]
      · cases c1
    · exact .inr hw
end
end Go.Vc
namespace Go.Vc
set_option linter.unusedSimpArgs false
set_option linter.unusedVariables false

section
variable {P : Program} {L : List Nat} {n : Nat} {ops : Array Oper} {Q : Exit → Act → World → Prop}

theorem act_ext {a b : Go.Act} (hd : a.defers = b.defers) (h : ∀ t : Nat, a.tmps[t]? = b.tmps[t]?) : a = b := by
  obtain ⟨at', ad⟩ := a
  obtain ⟨bt, bd⟩ := b
  simp only at hd h
  subst hd
  have : at' = bt := Array.ext_getElem? h
  rw [this]

theorem Inv.done (D : DrawOk P n ops) {K : Env → Heap → Prop} {w0 : World} (hQ : ∀ a ρ w, Ag L n a [] ρ → Same w0 w → K ρ w.heap → Q .normal a w)
    {listed : Array Bool} {a : Act} {w : World} {V : List Nat} {val : Nat → Value} {a0 av : Act} {τ ρ : Env} {f : Nat} {rest : List (Sop × List Sop)}
    (I : Inv P L n ops listed a w.heap V val a0 av τ ρ) (hst : stripDraw P L n ops (closAll ops) f V = some rest) (hv : vcDraw P K rest τ ρ w.heap) (hs : Same w0 w)
    (hr : Region.ready .any ops listed = []) : Q .normal a w := by
  have hnr : ∀ i, i < ops.size → listed.getD i false = false → (∀ j ∈ depsOf ops i, listed.getD j false = true) → False := by
    intro i h1 h2 h3
    have := (ready_spec I.lsz).2 ⟨h1, h2, h3⟩
    rw [hr] at this; cases this
  have hall : ∀ k ∈ V, listed.getD k false = true := by
    intro k hk
    refine Classical.byContradiction fun hno => ?_
    obtain ⟨i, hi, h1, h2⟩ := I.ord.first (fun k => listed.getD k false = true) ⟨k, hk, hno⟩
    exact hnr i (I.Vr i hi) (by simpa using h1) h2
  have hnone : ∀ i, i < ops.size → readyB ops V i = false := by
    intro i hi
    cases hb : readyB ops V i with
    | false => rfl
    | true =>
      obtain ⟨h1, h2⟩ := readyB_spec.1 hb
      refine (hnr i hi ?_ fun j hj => hall j (h2 j hj)).elim
      cases hx : listed.getD i false with
      | false => rfl
      | true => exact absurd (I.lV i hx) h1
  have hpick : pickD P ops V = none := by
    cases hp : pickD P ops V with
    | none => rfl
    | some i => obtain ⟨h1, h2, _⟩ := pickD_spec hp; rw [hnone i h1] at h2; cases h2
  have hrest : rest = [] := by
    cases f with
    | zero =>
      simp only [stripDraw] at hst
      split at hst
      · cases hst; rfl
      · cases hst
    | succ f =>
      simp only [stripDraw, hpick] at hst
      split at hst
      · cases hst; rfl
      · cases hst
  subst hrest
  have hav : a = av := by
    refine act_ext (I.fa.df.trans I.fv.df.symm) fun t => ?_
    by_cases h : ∃ j, j ∈ V ∧ dstAt ops j = some t
    · obtain ⟨j, h1, h2⟩ := h
      rw [I.fa.yes j t (hall j h1) h2, I.fv.yes j t h1 h2]
    · rw [I.fa.no t (fun j hj hd => h ⟨j, I.lV j hj, hd⟩), I.fv.no t (fun j hj hd => h ⟨j, hj, hd⟩)]
  rw [hav]
  exact hQ av ρ w I.ag.drop hs hv

theorem ca_of (D : DrawOk P n ops) {S : Nat → Prop} {val : Nat → Value} {a0 a : Act} (H : FrameOf ops S val a0 a) (hdc : ∀ i, S i → ∀ j ∈ depsOf ops i, S j) {i : Nat} (hi : ¬ S i) (hd : ∀ j ∈ depsOf ops i, S j) : CA ops val a0 i a :=
  H.ca D (mem_clos hdc hd) fun j t hj hjt hti => by
    rcases (D.d3 j i t hjt hti).2 with h | ⟨h, _⟩
    · exact h
    · exact absurd (mem_clos hdc (hdc j hj) i h) hi

theorem draw_main (D : DrawOk P n ops) {K : Env → Heap → Prop} {w0 : World} (hQ : ∀ a ρ w, Ag L n a [] ρ → Same w0 w → K ρ w.heap → Q .normal a w) :
    ∀ (fuel : Nat) (listed : Array Bool) (a : Act) (w : World) (V : List Nat) (val : Nat → Value) (a0 av : Act) (τ ρ : Env) (f : Nat) (rest : List (Sop × List Sop)),
      Inv P L n ops listed a w.heap V val a0 av τ ρ → cnt listed = fuel → stripDraw P L n ops (closAll ops) f V = some rest → vcDraw P K rest τ ρ w.heap → Same w0 w →
      (∀ i, i < ops.size → readyB ops V i = true → quietAt P ops i = false) → wpAny P .any ops Q fuel listed a w := by
  intro fuel
  induction fuel with
  | zero =>
    intro listed a w V val a0 av τ ρ f rest I hc hst hv hs hsat
    have hr : Region.ready .any ops listed = [] := by
      cases hx : Region.ready .any ops listed with
      | nil => rfl
      | cons i r =>
        have hi : i ∈ Region.ready .any ops listed := by rw [hx]; exact List.mem_cons_self
        obtain ⟨h1, h2, _⟩ := (ready_spec I.lsz).1 hi
        have := cnt_set (listed := listed) (i := i) (by rw [I.lsz]; exact h1) h2
        omega
    exact ⟨hr, I.done D hQ hst hv hs hr⟩
  | succ fuel ih =>
    intro listed a w V val a0 av τ ρ f rest I hc hst hv hs hsat
    refine ⟨fun hr => I.done D hQ hst hv hs hr, fun i hir => ?_⟩
    obtain ⟨hi, hil, hdl⟩ := (ready_spec I.lsz).1 hir
    have hil' : i < listed.size := by rw [I.lsz]; exact hi
    have ho : ops[i]? = some ops[i] := by simp [hi]
    generalize ops[i] = o at ho
    have hselo : noSel o.op = true := I.sel o (Array.mem_of_getElem? ho)
    have hcnt : cnt (listed.setIfInBounds i true) = fuel := by have := cnt_set hil' hil; omega
    have hcaa : CA ops val a0 i a := ca_of D I.fa (fun i h j hj => I.ldc i h j hj) (by simp [hil]) hdl
    by_cases hiV : i ∈ V
    · have hq : quietAt P ops i = true := by
        cases hx : quietAt P ops i with
        | true => rfl
        | false => rw [I.wl i hiV hx] at hil; cases hil
      obtain ⟨b, hb, hy⟩ := I.pend i hiV hil
      have hya : YA P ops i (val i) a w.heap := hy.congr (fun o' ho' => by rw [ho] at ho'; cases ho'; exact hselo) (hb.same D hcaa)
      have next : wpAny P .any ops Q fuel (listed.setIfInBounds i true) (a.put o.dst (val i)) w := by
        have := I.list D hiV hil hdl
        rw [dstAt_of ho] at this
        exact ih _ _ w V val a0 av τ ρ f rest this hcnt hst hv hs hsat
      unfold wpOp
      simp only [ho]
      rcases hya o ho with ⟨hw, hrd⟩ | ⟨hw, hu⟩
      · rw [if_pos hw]
        refine .inl ?_
        unfold Oper.wp
        rw [rd_run _ w _ hrd]
        exact next
      · rw [if_neg (by rw [hw]; simp)]
        rw [hu] at next
        exact next
    · have hrb : readyB ops V i = true := readyB_spec.2 ⟨hiV, fun j hj => I.lV j (hdl j hj)⟩
      cases f with
      | zero =>
        simp only [stripDraw] at hst
        split at hst
        · rename_i hall
          rw [List.all_eq_true] at hall
          have := hall i (List.mem_range.2 hi)
          exact absurd (by simpa using this) hiV
        · cases hst
      | succ f =>
        cases hp : pickD P ops V with
        | none => rw [pickD_none hp hi] at hrb; cases hrb
        | some p =>
          obtain ⟨hpi, hpr, _⟩ := pickD_spec hp
          have hpq := hsat p hpi hpr
          simp only [stripDraw, hp, hpq, Bool.false_eq_true, if_false] at hst
          split at hst
          · rename_i hsole
            rw [List.all_eq_true] at hsole
            have hip : i = p := by
              have := hsole i (List.mem_range.2 hi)
              simp only [Bool.or_eq_true, beq_iff_eq, hrb, Bool.not_true, Bool.false_eq_true, or_false] at this
              exact this
            subst hip
            split at hst
            · rename_i s re r h1 h2 h3
              cases hst
              obtain ⟨o', ho', hso⟩ := stripAt_spec h1
              rw [ho] at ho'; cases ho'
              obtain ⟨e1, e2, e3, e4, hd, hg⟩ := stripOp_spec hso
              have hcav : CA ops val a0 i av := ca_of D I.fv (fun i h j hj => I.ord.down i h j hj) hiV (fun j hj => I.lV j (hdl j hj))
              have hlk : ∀ t ∈ looks ops i, a.tmps[t]? = av.tmps[t]? := hcaa.same D hcav
              have hclV : ∀ j ∈ clos ops i, j ∈ V := mem_clos (p := (· ∈ V)) (fun x hx y hy => I.ord.down x hx y hy) (fun j hj => I.lV j (hdl j hj))
              have hcll : ∀ j ∈ clos ops i, listed.getD j false = true := mem_clos (p := fun j => listed.getD j false = true) (fun x hx y hy => I.ldc x hx y hy) hdl
              have hne : ∀ j ∈ V, j ≠ i := fun j hj e => hiV (e ▸ hj)
              simp only [vcDraw] at hv
              have hN : ∀ v w', Same w0 w' → (stills P re (putT s.dst v τ) (putR s.dst v ρ) w'.heap ∧ vcDraw P K r (putT s.dst v τ) (putR s.dst v ρ) w'.heap) →
                  wpAny P .any ops Q fuel (listed.setIfInBounds i true) (a.put o.dst v) w' := by
                intro v w' hs' hkk
                have fv' : FrameOf ops (fun j => j ∈ V ++ [i]) (upd val i v) a0 (av.put o.dst v) := by
                  rw [← dstAt_of ho]
                  exact I.fv.put D I.nz hiV (fun j => by simp) v (by simp [upd]) fun j hj => by simp [upd, hne j hj]
                have ag' : Ag L n (av.put o.dst v) (putT s.dst v τ) (putR s.dst v ρ) := I.ag.putS hd v
                have I' : Inv P L n ops (listed.setIfInBounds i true) (a.put o.dst v) w'.heap (V ++ [i]) (upd val i v) a0 (av.put o.dst v) (putT s.dst v τ) (putR s.dst v ρ) := by
                  refine ⟨by simp [I.lsz], I.nz, I.sel, ?_, ?_, ?_, ?_, .snoc V i I.ord (fun j hj => I.lV j (hdl j hj)), ?_, fv', ag', ?_⟩
                  · intro j hj
                    rcases (getD_set_iff hil').1 hj with h | h
                    · exact List.mem_append_left _ (I.lV j h)
                    · subst h; simp
                  · intro j hj
                    rcases List.mem_append.1 hj with h | h
                    · exact I.Vr j h
                    · simp at h; subst h; exact hi
                  · intro j hj hqj
                    rcases List.mem_append.1 hj with h | h
                    · exact (getD_set_iff hil').2 (.inl (I.wl j h hqj))
                    · simp at h; subst h; exact (getD_set_iff hil').2 (.inr rfl)
                  · intro j hj k hk
                    refine (getD_set_iff hil').2 (.inl ?_)
                    rcases (getD_set_iff hil').1 hj with h | h
                    · exact I.ldc j h k hk
                    · exact hdl k (h ▸ hk)
                  · rw [← dstAt_of ho]
                    refine I.fa.put D I.nz (by simp [hil]) (fun j => getD_set_iff hil') v (by simp [upd]) ?_
                    intro j hj
                    simp [upd, hne j (I.lV j hj)]
                  · intro k hk hkl
                    have hki : k ≠ i := fun e => by subst e; rw [(getD_set_iff hil').2 (.inr rfl)] at hkl; cases hkl
                    have hkV : k ∈ V := by
                      rcases List.mem_append.1 hk with h | h
                      · exact h
                      · simp at h; exact absurd h hki
                    have hkl0 : listed.getD k false = false := by
                      cases hx : listed.getD k false with
                      | false => rfl
                      | true => rw [(getD_set_iff hil').2 (.inl hx)] at hkl; cases hkl
                    have hkq : quietAt P ops k = true := by
                      cases hx : quietAt P ops k with
                      | true => rfl
                      | false => rw [I.wl k hkV hx] at hkl0; cases hkl0
                    have hkc : k ∉ clos ops i := fun h => by rw [hcll k h] at hkl0; cases hkl0
                    obtain ⟨b, hb, hy⟩ := I.pend k hkV hkl0
                    have hkcV : ∀ j ∈ clos ops k, j ∈ V := mem_clos (p := (· ∈ V)) (fun x hx y hy => I.ord.down x hx y hy) (I.ord.down k hkV)
                    have hb' : CA ops (upd val i v) a0 k b := hb.val D fun j hj => by simp [upd, hne j (hkcV j hj)]
                    refine ⟨b, hb', ?_⟩
                    simp only [upd, hki, if_false]
                    cases hfr : freeAt ops k with
                    | true => exact hy.free hfr
                    | false =>
                      have hmem : k ∈ reOf P ops (closAll ops) V i := by
                        unfold reOf
                        rw [List.mem_filter]
                        refine ⟨hkV, ?_⟩
                        rw [closAll_getD hi]
                        simp [hkq, hfr, hkc]
                      obtain ⟨sk, hsk, hske⟩ := stripsAt_mem h2 k hmem
                      obtain ⟨ok, hok, hsok⟩ := stripAt_spec hske
                      have hstill := stills_mem hkk.1 sk hsk
                      have hca' : CA ops (upd val i v) a0 k (av.put o.dst v) := fv'.ca D (fun j hj => List.mem_append_left _ (hkcV j hj)) fun j t hj hjt htk => by
                        rcases (D.d3 j k t hjt htk).2 with h | ⟨h, hall⟩
                        · exact h
                        · rcases hall i hi with h4 | h4 | h4
                          · rw [hpq] at h4; cases h4
                          · subst h4; exact absurd h hkc
                          · rcases List.mem_append.1 hj with h5 | h5
                            · exact absurd (mem_clos (p := (· ∈ V)) (fun x hx y hy => I.ord.down x hx y hy) (I.ord.down j h5) i h4) hiV
                            · simp at h5; subst h5; exact absurd h hkc
                      refine YA.again hok hsok ag' ?_ (hb'.same D hca') hstill hy
                      intro t ht
                      have := fv'.yes k t (List.mem_append_left _ hkV) (by rw [dstAt_of hok]; exact ht)
                      simpa [upd, hki] using this
                obtain ⟨f', V', val', av', τ', ρ', rest', J1, J2, J3, J4⟩ := saturate D f (V ++ [i]) (upd val i v) _ _ _ r I' h3 hkk.2
                exact ih _ _ w' V' val' a0 av' τ' ρ' f' rest' J1 hcnt J2 J3 hs' J4
              have hev : ∀ x ∈ o.op.operands, (evo τ ρ x).isSome = true → a.eval x = evd τ ρ x := by
                intro x hx hk
                rw [← I.ag.evd hk]
                refine eval_congr fun t ht => hlk t ?_
                subst ht
                simp only [looks, ho, Oper.looksAt]
                exact List.mem_append_left _ (List.mem_filterMap.2 ⟨.tmp t, by simpa using hx, rfl⟩)
              unfold wpOp
              simp only [ho]
              unfold vcOne at hv
              rcases hg with ⟨g1, g2⟩ | ⟨j, want, g, g1, g2, g3⟩
              · rw [g2] at hv
                rw [if_pos (by simp [Region.wanted, g1])]
                exact .inl (run_sound hev e1 e2 e3 hs hN hv)
              · rw [g3] at hv
                have hwc := wanted_congr ho hlk
                cases hl : lk τ ρ g with
                | none => simp only [hl] at hv
                | some x =>
                  simp only [hl] at hv
                  have hw := wanted_eq I.ag g1 g2 hl
                  rw [hwc]
                  by_cases hb : asB x = some want
                  · rw [if_pos hb] at hv
                    rw [if_pos (hw.2 hb)]
                    exact .inl (run_sound hev e1 e2 e3 hs hN hv)
                  · rw [if_neg hb] at hv
                    rw [if_neg (fun h => hb (hw.1 h))]
                    exact hN undef w hs hv
            · cases hst
          · cases hst

theorem draw_sound {id : Nat} {ops : Array Oper} {sl : List (Sop × List Sop)} {w0 w : World} {a : Act} {ρ : Env} {K : Env → Heap → Prop} (hm : P.follows .mixedOrders = true)
    (hQ : ∀ a ρ w, Ag L n a [] ρ → Same w0 w → K ρ w.heap → Q .normal a w) (hok : drawOk P n ops (closAll ops) = true) (hsel : ops.all (fun o => noSel o.op) = true)
    (h : stripDraw P L n ops (closAll ops) ops.size [] = some sl)
    (H : Ag L n a [] ρ) (hs : Same w0 w) (hv : vcDraw P K sl [] ρ w.heap) : (Code.region id ops true).wp P Q a w := by
  refine wp_region_any hm ?_
  have D := drawOk_spec hok
  have hrep : ∀ i, (Array.replicate ops.size false).getD i false = false := by
    intro i
    rcases Nat.lt_or_ge i ops.size with h | h <;> simp [h]
  have I : Inv P L n ops (Array.replicate ops.size false) a w.heap [] (fun _ => undef) a a [] ρ := by
    refine ⟨by simp, H.sz, ?_, ?_, ?_, ?_, ?_, .nil, ?_, ?_, H, ?_⟩
    · intro o ho
      rw [Array.all_eq_true'] at hsel
      exact hsel o ho
    · intro i hi; rw [hrep i] at hi; cases hi
    · intro i hi; cases hi
    · intro i hi; cases hi
    · intro i hi; rw [hrep i] at hi; cases hi
    · exact ⟨rfl, rfl, fun j t hj => (by rw [hrep j] at hj; cases hj), fun _ _ => rfl⟩
    · exact ⟨rfl, rfl, fun j t hj => (by cases hj), fun _ _ => rfl⟩
    · intro k hk; cases hk
  obtain ⟨f', V', val', av', τ', ρ', rest', J1, J2, J3, J4⟩ := saturate D ops.size [] _ _ _ _ sl I h hv
  refine draw_main D hQ ops.size _ a { w with drawn := w.drawn + 1 } V' val' a av' τ' ρ' f' rest' J1 ?_ J2 J3 ⟨hs.os, hs.tape, hs.output⟩ J4
  simp [cnt]
end
end Go.Vc
namespace Go.Vc
set_option linter.unusedSimpArgs false
set_option linter.unusedVariables false

def stripAlts (g : Nat → Option Dt) : List Nat → Option Dt
  | [] => none
  | [i] => g i
  | i :: r => match g i, stripAlts g r with
    | some a, some b => some (.both a b)
    | _, _ => none
def stripTree (P : Program) (L : List Nat) (n : Nat) (ops : Array Oper) (cl : List (List Nat)) : Nat → List Nat → Option Dt
  | 0, V => if (List.range ops.size).all (fun i => V.contains i) then some .done else none
  | f + 1, V =>
    match pickD P ops V with
    | none => if (List.range ops.size).all (fun i => V.contains i) then some .done else none
    | some i =>
      if quietAt P ops i then
        match stripAt P L n ops i, stripTree P L n ops cl f (V ++ [i]) with
        | some s, some r => some (.run s [] r)
        | _, _ => none
      else stripAlts (fun i => match stripAt P L n ops i, stripsAt P L n ops (reOf P ops cl V i), stripTree P L n ops cl f (V ++ [i]) with
        | some s, some re, some r => some (.run s re r)
        | _, _, _ => none) ((List.range ops.size).filter (readyB ops V))
theorem alts_mem {P : Program} {K : Env → Heap → Prop} {g : Nat → Option Dt} : ∀ {l : List Nat} {t : Dt}, stripAlts g l = some t → ∀ i ∈ l, ∀ {τ ρ : Env} {h : Heap}, vcT P K t τ ρ h → ∃ ti, g i = some ti ∧ vcT P K ti τ ρ h := by
  intro l
  induction l with
  | nil => intro t h; cases h
  | cons j l ih =>
    intro t hs i hi τ ρ h hv
    cases l with
    | nil =>
      simp only [List.mem_singleton] at hi
      subst hi
      exact ⟨t, hs, hv⟩
    | cons k l =>
      simp only [stripAlts] at hs
      split at hs
      · rename_i a b h1 h2
        cases hs
        rcases List.mem_cons.1 hi with hi | hi
        · subst hi; exact ⟨a, h1, hv.1⟩
        · exact ih h2 i hi hv.2
      · cases hs

section
variable {P : Program} {L : List Nat} {n : Nat} {ops : Array Oper} {Q : Exit → Act → World → Prop}

/-- All quiet operations that may come up now are taken. -/
theorem saturateT (D : DrawOk P n ops) {K : Env → Heap → Prop} {listed : Array Bool} {a a0 : Act} {h : Heap} : ∀ (f : Nat) (V : List Nat) (val : Nat → Value) (av : Act) (τ ρ : Env) (rest : Dt),
    Inv P L n ops listed a h V val a0 av τ ρ → stripTree P L n ops (closAll ops) f V = some rest → vcT P K rest τ ρ h →
    ∃ f' V' val' av' τ' ρ' rest', Inv P L n ops listed a h V' val' a0 av' τ' ρ' ∧ stripTree P L n ops (closAll ops) f' V' = some rest' ∧ vcT P K rest' τ' ρ' h ∧
      (∀ i, i < ops.size → readyB ops V' i = true → quietAt P ops i = false) := by
  intro f
  induction f with
  | zero =>
    intro V val av τ ρ rest I hs hv
    refine ⟨0, V, val, av, τ, ρ, rest, I, hs, hv, ?_⟩
    intro i hi hr
    simp only [stripTree] at hs
    split at hs
    · rename_i hall
      rw [List.all_eq_true] at hall
      have := hall i (List.mem_range.2 hi)
      exact absurd (by simpa using this) (readyB_spec.1 hr).1
    · cases hs
  | succ f ih =>
    intro V val av τ ρ rest I hs hv
    cases hp : pickD P ops V with
    | none => exact ⟨f + 1, V, val, av, τ, ρ, rest, I, hs, hv, fun i hi hr => by rw [pickD_none hp hi] at hr; cases hr⟩
    | some i =>
      obtain ⟨hi, hr, hw⟩ := pickD_spec hp
      cases hq : quietAt P ops i with
      | false => exact ⟨f + 1, V, val, av, τ, ρ, rest, I, hs, hv, hw hq⟩
      | true =>
        simp only [stripTree, hp, hq, if_true] at hs
        split at hs
        · rename_i s r h1 h2
          cases hs
          obtain ⟨o, ho, hso⟩ := stripAt_spec h1
          simp only [vcT] at hv
          obtain ⟨v, hy, _, hN⟩ := quiet_one ho hso hq I.ag hv
          exact ih (V ++ [i]) (upd val i v) (av.put o.dst v) _ _ r (I.grow D ho hso hr hq hy) h2 hN
        · cases hs

theorem Inv.doneT (D : DrawOk P n ops) {K : Env → Heap → Prop} {w0 : World} (hQ : ∀ a ρ w, Ag L n a [] ρ → Same w0 w → K ρ w.heap → Q .normal a w)
    {listed : Array Bool} {a : Act} {w : World} {V : List Nat} {val : Nat → Value} {a0 av : Act} {τ ρ : Env} {f : Nat} {rest : Dt}
    (I : Inv P L n ops listed a w.heap V val a0 av τ ρ) (hst : stripTree P L n ops (closAll ops) f V = some rest) (hv : vcT P K rest τ ρ w.heap) (hs : Same w0 w)
    (hr : Region.ready .any ops listed = []) : Q .normal a w := by
  have hnr : ∀ i, i < ops.size → listed.getD i false = false → (∀ j ∈ depsOf ops i, listed.getD j false = true) → False := by
    intro i h1 h2 h3
    have := (ready_spec I.lsz).2 ⟨h1, h2, h3⟩
    rw [hr] at this; cases this
  have hall : ∀ k ∈ V, listed.getD k false = true := by
    intro k hk
    refine Classical.byContradiction fun hno => ?_
    obtain ⟨i, hi, h1, h2⟩ := I.ord.first (fun k => listed.getD k false = true) ⟨k, hk, hno⟩
    exact hnr i (I.Vr i hi) (by simpa using h1) h2
  have hnone : ∀ i, i < ops.size → readyB ops V i = false := by
    intro i hi
    cases hb : readyB ops V i with
    | false => rfl
    | true =>
      obtain ⟨h1, h2⟩ := readyB_spec.1 hb
      refine (hnr i hi ?_ fun j hj => hall j (h2 j hj)).elim
      cases hx : listed.getD i false with
      | false => rfl
      | true => exact absurd (I.lV i hx) h1
  have hpick : pickD P ops V = none := by
    cases hp : pickD P ops V with
    | none => rfl
    | some i => obtain ⟨h1, h2, _⟩ := pickD_spec hp; rw [hnone i h1] at h2; cases h2
  have hrest : rest = .done := by
    cases f with
    | zero =>
      simp only [stripTree] at hst
      split at hst
      · cases hst; rfl
      · cases hst
    | succ f =>
      simp only [stripTree, hpick] at hst
      split at hst
      · cases hst; rfl
      · cases hst
  subst hrest
  have hav : a = av := by
    refine act_ext (I.fa.df.trans I.fv.df.symm) fun t => ?_
    by_cases h : ∃ j, j ∈ V ∧ dstAt ops j = some t
    · obtain ⟨j, h1, h2⟩ := h
      rw [I.fa.yes j t (hall j h1) h2, I.fv.yes j t h1 h2]
    · rw [I.fa.no t (fun j hj hd => h ⟨j, I.lV j hj, hd⟩), I.fv.no t (fun j hj hd => h ⟨j, hj, hd⟩)]
  rw [hav]
  exact hQ av ρ w I.ag.drop hs hv

theorem tree_main (D : DrawOk P n ops) {K : Env → Heap → Prop} {w0 : World} (hQ : ∀ a ρ w, Ag L n a [] ρ → Same w0 w → K ρ w.heap → Q .normal a w) :
    ∀ (fuel : Nat) (listed : Array Bool) (a : Act) (w : World) (V : List Nat) (val : Nat → Value) (a0 av : Act) (τ ρ : Env) (f : Nat) (rest : Dt),
      Inv P L n ops listed a w.heap V val a0 av τ ρ → cnt listed = fuel → stripTree P L n ops (closAll ops) f V = some rest → vcT P K rest τ ρ w.heap → Same w0 w →
      (∀ i, i < ops.size → readyB ops V i = true → quietAt P ops i = false) → wpAny P .any ops Q fuel listed a w := by
  intro fuel
  induction fuel with
  | zero =>
    intro listed a w V val a0 av τ ρ f rest I hc hst hv hs hsat
    have hr : Region.ready .any ops listed = [] := by
      cases hx : Region.ready .any ops listed with
      | nil => rfl
      | cons i r =>
        have hi : i ∈ Region.ready .any ops listed := by rw [hx]; exact List.mem_cons_self
        obtain ⟨h1, h2, _⟩ := (ready_spec I.lsz).1 hi
        have := cnt_set (listed := listed) (i := i) (by rw [I.lsz]; exact h1) h2
        omega
    exact ⟨hr, I.doneT D hQ hst hv hs hr⟩
  | succ fuel ih =>
    intro listed a w V val a0 av τ ρ f rest I hc hst hv hs hsat
    refine ⟨fun hr => I.doneT D hQ hst hv hs hr, fun i hir => ?_⟩
    obtain ⟨hi, hil, hdl⟩ := (ready_spec I.lsz).1 hir
    have hil' : i < listed.size := by rw [I.lsz]; exact hi
    have ho : ops[i]? = some ops[i] := by simp [hi]
    generalize ops[i] = o at ho
    have hselo : noSel o.op = true := I.sel o (Array.mem_of_getElem? ho)
    have hcnt : cnt (listed.setIfInBounds i true) = fuel := by have := cnt_set hil' hil; omega
    have hcaa : CA ops val a0 i a := ca_of D I.fa (fun i h j hj => I.ldc i h j hj) (by simp [hil]) hdl
    by_cases hiV : i ∈ V
    · have hq : quietAt P ops i = true := by
        cases hx : quietAt P ops i with
        | true => rfl
        | false => rw [I.wl i hiV hx] at hil; cases hil
      obtain ⟨b, hb, hy⟩ := I.pend i hiV hil
      have hya : YA P ops i (val i) a w.heap := hy.congr (fun o' ho' => by rw [ho] at ho'; cases ho'; exact hselo) (hb.same D hcaa)
      have next : wpAny P .any ops Q fuel (listed.setIfInBounds i true) (a.put o.dst (val i)) w := by
        have := I.list D hiV hil hdl
        rw [dstAt_of ho] at this
        exact ih _ _ w V val a0 av τ ρ f rest this hcnt hst hv hs hsat
      unfold wpOp
      simp only [ho]
      rcases hya o ho with ⟨hw, hrd⟩ | ⟨hw, hu⟩
      · rw [if_pos hw]
        refine .inl ?_
        unfold Oper.wp
        rw [rd_run _ w _ hrd]
        exact next
      · rw [if_neg (by rw [hw]; simp)]
        rw [hu] at next
        exact next
    · have hrb : readyB ops V i = true := readyB_spec.2 ⟨hiV, fun j hj => I.lV j (hdl j hj)⟩
      cases f with
      | zero =>
        simp only [stripTree] at hst
        split at hst
        · rename_i hall
          rw [List.all_eq_true] at hall
          have := hall i (List.mem_range.2 hi)
          exact absurd (by simpa using this) hiV
        · cases hst
      | succ f =>
        cases hp : pickD P ops V with
        | none => rw [pickD_none hp hi] at hrb; cases hrb
        | some p =>
          obtain ⟨hpi, hpr, _⟩ := pickD_spec hp
          have hpq0 := hsat p hpi hpr
          simp only [stripTree, hp, hpq0, Bool.false_eq_true, if_false] at hst
          clear hpq0
          have himem : i ∈ (List.range ops.size).filter (readyB ops V) := List.mem_filter.2 ⟨List.mem_range.2 hi, hrb⟩
          obtain ⟨ti, hti, hv⟩ := alts_mem hst i himem hv
          have hpq : quietAt P ops i = false := hsat i hi hrb
          clear hst
          split at hti
          · rename_i s re r h1 h2 h3
            cases hti
            obtain ⟨o', ho', hso⟩ := stripAt_spec h1
            rw [ho] at ho'; cases ho'
            obtain ⟨e1, e2, e3, e4, hd, hg⟩ := stripOp_spec hso
            have hcav : CA ops val a0 i av := ca_of D I.fv (fun i h j hj => I.ord.down i h j hj) hiV (fun j hj => I.lV j (hdl j hj))
            have hlk : ∀ t ∈ looks ops i, a.tmps[t]? = av.tmps[t]? := hcaa.same D hcav
            have hclV : ∀ j ∈ clos ops i, j ∈ V := mem_clos (p := (· ∈ V)) (fun x hx y hy => I.ord.down x hx y hy) (fun j hj => I.lV j (hdl j hj))
            have hcll : ∀ j ∈ clos ops i, listed.getD j false = true := mem_clos (p := fun j => listed.getD j false = true) (fun x hx y hy => I.ldc x hx y hy) hdl
            have hne : ∀ j ∈ V, j ≠ i := fun j hj e => hiV (e ▸ hj)
            simp only [vcT] at hv
            have hN : ∀ v w', Same w0 w' → (stills P re (putT s.dst v τ) (putR s.dst v ρ) w'.heap ∧ vcT P K r (putT s.dst v τ) (putR s.dst v ρ) w'.heap) →
                wpAny P .any ops Q fuel (listed.setIfInBounds i true) (a.put o.dst v) w' := by
              intro v w' hs' hkk
              have fv' : FrameOf ops (fun j => j ∈ V ++ [i]) (upd val i v) a0 (av.put o.dst v) := by
                rw [← dstAt_of ho]
                exact I.fv.put D I.nz hiV (fun j => by simp) v (by simp [upd]) fun j hj => by simp [upd, hne j hj]
              have ag' : Ag L n (av.put o.dst v) (putT s.dst v τ) (putR s.dst v ρ) := I.ag.putS hd v
              have I' : Inv P L n ops (listed.setIfInBounds i true) (a.put o.dst v) w'.heap (V ++ [i]) (upd val i v) a0 (av.put o.dst v) (putT s.dst v τ) (putR s.dst v ρ) := by
                refine ⟨by simp [I.lsz], I.nz, I.sel, ?_, ?_, ?_, ?_, .snoc V i I.ord (fun j hj => I.lV j (hdl j hj)), ?_, fv', ag', ?_⟩
                · intro j hj
                  rcases (getD_set_iff hil').1 hj with h | h
                  · exact List.mem_append_left _ (I.lV j h)
                  · subst h; simp
                · intro j hj
                  rcases List.mem_append.1 hj with h | h
                  · exact I.Vr j h
                  · simp at h; subst h; exact hi
                · intro j hj hqj
                  rcases List.mem_append.1 hj with h | h
                  · exact (getD_set_iff hil').2 (.inl (I.wl j h hqj))
                  · simp at h; subst h; exact (getD_set_iff hil').2 (.inr rfl)
                · intro j hj k hk
                  refine (getD_set_iff hil').2 (.inl ?_)
                  rcases (getD_set_iff hil').1 hj with h | h
                  · exact I.ldc j h k hk
                  · exact hdl k (h ▸ hk)
                · rw [← dstAt_of ho]
                  refine I.fa.put D I.nz (by simp [hil]) (fun j => getD_set_iff hil') v (by simp [upd]) ?_
                  intro j hj
                  simp [upd, hne j (I.lV j hj)]
                · intro k hk hkl
                  have hki : k ≠ i := fun e => by subst e; rw [(getD_set_iff hil').2 (.inr rfl)] at hkl; cases hkl
                  have hkV : k ∈ V := by
                    rcases List.mem_append.1 hk with h | h
                    · exact h
                    · simp at h; exact absurd h hki
                  have hkl0 : listed.getD k false = false := by
                    cases hx : listed.getD k false with
                    | false => rfl
                    | true => rw [(getD_set_iff hil').2 (.inl hx)] at hkl; cases hkl
                  have hkq : quietAt P ops k = true := by
                    cases hx : quietAt P ops k with
                    | true => rfl
                    | false => rw [I.wl k hkV hx] at hkl0; cases hkl0
                  have hkc : k ∉ clos ops i := fun h => by rw [hcll k h] at hkl0; cases hkl0
                  obtain ⟨b, hb, hy⟩ := I.pend k hkV hkl0
                  have hkcV : ∀ j ∈ clos ops k, j ∈ V := mem_clos (p := (· ∈ V)) (fun x hx y hy => I.ord.down x hx y hy) (I.ord.down k hkV)
                  have hb' : CA ops (upd val i v) a0 k b := hb.val D fun j hj => by simp [upd, hne j (hkcV j hj)]
                  refine ⟨b, hb', ?_⟩
                  simp only [upd, hki, if_false]
                  cases hfr : freeAt ops k with
                  | true => exact hy.free hfr
                  | false =>
                    have hmem : k ∈ reOf P ops (closAll ops) V i := by
                      unfold reOf
                      rw [List.mem_filter]
                      refine ⟨hkV, ?_⟩
                      rw [closAll_getD hi]
                      simp [hkq, hfr, hkc]
                    obtain ⟨sk, hsk, hske⟩ := stripsAt_mem h2 k hmem
                    obtain ⟨ok, hok, hsok⟩ := stripAt_spec hske
                    have hstill := stills_mem hkk.1 sk hsk
                    have hca' : CA ops (upd val i v) a0 k (av.put o.dst v) := fv'.ca D (fun j hj => List.mem_append_left _ (hkcV j hj)) fun j t hj hjt htk => by
                      rcases (D.d3 j k t hjt htk).2 with h | ⟨h, hall⟩
                      · exact h
                      · rcases hall i hi with h4 | h4 | h4
                        · rw [hpq] at h4; cases h4
                        · subst h4; exact absurd h hkc
                        · rcases List.mem_append.1 hj with h5 | h5
                          · exact absurd (mem_clos (p := (· ∈ V)) (fun x hx y hy => I.ord.down x hx y hy) (I.ord.down j h5) i h4) hiV
                          · simp at h5; subst h5; exact absurd h hkc
                    refine YA.again hok hsok ag' ?_ (hb'.same D hca') hstill hy
                    intro t ht
                    have := fv'.yes k t (List.mem_append_left _ hkV) (by rw [dstAt_of hok]; exact ht)
                    simpa [upd, hki] using this
              obtain ⟨f', V', val', av', τ', ρ', rest', J1, J2, J3, J4⟩ := saturateT D f (V ++ [i]) (upd val i v) _ _ _ r I' h3 hkk.2
              exact ih _ _ w' V' val' a0 av' τ' ρ' f' rest' J1 hcnt J2 J3 hs' J4
            have hev : ∀ x ∈ o.op.operands, (evo τ ρ x).isSome = true → a.eval x = evd τ ρ x := by
              intro x hx hk
              rw [← I.ag.evd hk]
              refine eval_congr fun t ht => hlk t ?_
              subst ht
              simp only [looks, ho, Oper.looksAt]
              exact List.mem_append_left _ (List.mem_filterMap.2 ⟨.tmp t, by simpa using hx, rfl⟩)
            unfold wpOp
            simp only [ho]
            unfold vcOne at hv
            rcases hg with ⟨g1, g2⟩ | ⟨j, want, g, g1, g2, g3⟩
            · rw [g2] at hv
              rw [if_pos (by simp [Region.wanted, g1])]
              exact .inl (run_sound hev e1 e2 e3 hs hN hv)
            · rw [g3] at hv
              have hwc := wanted_congr ho hlk
              cases hl : lk τ ρ g with
              | none => simp only [hl] at hv
              | some x =>
                simp only [hl] at hv
                have hw := wanted_eq I.ag g1 g2 hl
                rw [hwc]
                by_cases hb : asB x = some want
                · rw [if_pos hb] at hv
                  rw [if_pos (hw.2 hb)]
                  exact .inl (run_sound hev e1 e2 e3 hs hN hv)
                · rw [if_neg hb] at hv
                  rw [if_neg (fun h => hb (hw.1 h))]
                  exact hN undef w hs hv
          · cases hti

theorem tree_sound {id : Nat} {ops : Array Oper} {sl : Dt} {w0 w : World} {a : Act} {ρ : Env} {K : Env → Heap → Prop} (hm : P.follows .mixedOrders = true)
    (hQ : ∀ a ρ w, Ag L n a [] ρ → Same w0 w → K ρ w.heap → Q .normal a w) (hok : drawOk P n ops (closAll ops) = true) (hsel : ops.all (fun o => noSel o.op) = true)
    (h : stripTree P L n ops (closAll ops) ops.size [] = some sl)
    (H : Ag L n a [] ρ) (hs : Same w0 w) (hv : vcT P K sl [] ρ w.heap) : (Code.region id ops true).wp P Q a w := by
  refine wp_region_any hm ?_
  have D := drawOk_spec hok
  have hrep : ∀ i, (Array.replicate ops.size false).getD i false = false := by
    intro i
    rcases Nat.lt_or_ge i ops.size with h | h <;> simp [h]
  have I : Inv P L n ops (Array.replicate ops.size false) a w.heap [] (fun _ => undef) a a [] ρ := by
    refine ⟨by simp, H.sz, ?_, ?_, ?_, ?_, ?_, .nil, ?_, ?_, H, ?_⟩
    · intro o ho
      rw [Array.all_eq_true'] at hsel
      exact hsel o ho
    · intro i hi; rw [hrep i] at hi; cases hi
    · intro i hi; cases hi
    · intro i hi; cases hi
    · intro i hi; rw [hrep i] at hi; cases hi
    · exact ⟨rfl, rfl, fun j t hj => (by rw [hrep j] at hj; cases hj), fun _ _ => rfl⟩
    · exact ⟨rfl, rfl, fun j t hj => (by cases hj), fun _ _ => rfl⟩
    · intro k hk; cases hk
  obtain ⟨f', V', val', av', τ', ρ', rest', J1, J2, J3, J4⟩ := saturateT D ops.size [] _ _ _ _ sl I h hv
  refine tree_main D hQ ops.size _ a { w with drawn := w.drawn + 1 } V' val' a av' τ' ρ' f' rest' J1 ?_ J2 J3 ⟨hs.os, hs.tape, hs.output⟩ J4
  simp [cnt]
end
end Go.Vc
namespace Go.Vc
set_option linter.unusedSimpArgs false
set_option linter.unusedVariables false

def strip (P : Program) (L : List Nat) (n : Nat) : Code → Option Cd
  | .skip => some .skip
  | .region _ ops false => (stripOps P L n ops.toList ops.toList).map .region
  | .region _ ops true =>
    let cl := closAll ops
    if drawOk P n ops cl && ops.all (fun o => noSel o.op) then (match stripDraw P L n ops cl ops.size [] with
      | some sl => some (.draw sl)
      | none => (stripTree P L n ops cl ops.size []).map .tree) else none
  | .seq a b => match strip P L n a, strip P L n b with
    | some x, some y => some (.seq x y)
    | _, _ => none
  | .cond c a b => match strip P L n a, strip P L n b with
    | some x, some y => some (.cond c x y)
    | _, _ => none
  | .block id a => (strip P L n a).map (.block id)
  | .loop a => (strip P L n a).map .loop
  | .exit id => some (.exit id)
  | .ret => some .ret
  | .scope a => strip P L n a
  | .label _ => some .skip
  | .goto _ => some (.cond (.const (.int .i64 0)) .skip .skip)
  | _ => none

section
variable {P : Program} {L : List Nat} {n : Nat}

def LQ (L : List Nat) (n : Nat) (w0 : World) (Q : Ex → Env → Heap → Prop) : Exit → Act → World → Prop
  | .normal, a, w => ∃ ρ, Ag L n a [] ρ ∧ Same w0 w ∧ Q .normal ρ w.heap
  | .exit id, a, w => ∃ ρ, Ag L n a [] ρ ∧ Same w0 w ∧ Q (.exit id) ρ w.heap
  | .ret, a, w => ∃ ρ, Ag L n a [] ρ ∧ Same w0 w ∧ Q .ret ρ w.heap
  | _, _, _ => False

/-- A loop whose measure stands nowhere. -/
theorem wp_loop_ghost {P : Program} {Q : Exit → Act → World → Prop} {c : Code} (I : Nat → Act → World → Prop)
    (round : ∀ m a w, I m a w → c.wp P (Exit.then (fun a' w' => ∃ m', m' < m ∧ I m' a' w') Q) a w) : ∀ m a w, I m a w → (Code.loop c).wp P Q a w := by
  intro m a w hI b k cs
  have key : ∀ m a w, I m a w → ∃ e a' w', Q e a' w' ∧ Arrives P (lone (b.at a (.code c :: .inLoop c :: k)) cs w) b k cs e a' w' := by
    intro m
    induction m using Nat.strongRecOn with
    | _ m ih =>
      intro a w hI
      obtain ⟨e, a₁, w₁, hq, harr⟩ := round m a w hI b (.inLoop c :: k) cs
      cases e with
      | normal =>
        obtain ⟨m', hlt, hI₁⟩ := hq
        obtain ⟨e₂, a₂, w₂, hq₂, harr₂⟩ := ih m' hlt a₁ w₁ hI₁
        exact ⟨e₂, a₂, w₂, hq₂, .of_steps (Steps.trans harr (.one step_inLoop)) harr₂⟩
      | exit id => exact ⟨_, a₁, w₁, hq, .pass (x := .inLoop c) rfl (fun _ _ => .inl (by simp)) harr⟩
      | goto l => exact ⟨_, a₁, w₁, hq, .pass (x := .inLoop c) rfl (fun _ _ => .inl (by simp)) harr⟩
      | ret => exact ⟨_, a₁, w₁, hq, .pass (x := .inLoop c) rfl (fun _ _ => .inl (by simp)) harr⟩
      | panic ch => exact ⟨_, a₁, w₁, hq, .pass (x := .inLoop c) rfl (fun _ _ => .inl (by simp)) harr⟩
      | outgrown => exact ⟨_, a₁, w₁, hq, .pass (x := .inLoop c) rfl (fun _ _ => .inl (by simp)) harr⟩
  obtain ⟨e, a', w', hq, harr⟩ := key m a w hI
  exact ⟨e, a', w', hq, .of_steps (.one step_loop) harr⟩

theorem vc_sound (hm : P.follows .mixedOrders = true) : ∀ (c : Code) (cd : Cd), strip P L n c = some cd → ∀ (Q : Ex → Env → Heap → Prop) (w0 : World) (a : Act) (ρ : Env) (w : World),
    Ag L n a [] ρ → Same w0 w → cd.vc P Q ρ w.heap → c.wp P (LQ L n w0 Q) a w := by
  intro c
  induction c with
  | skip => intro cd h Q w0 a ρ w H hs hv; cases h; exact wp_skip ⟨ρ, H, hs, hv⟩
  | region id ops draw =>
    intro cd h Q w0 a ρ w H hs hv
    cases draw with
    | false =>
      simp only [strip] at h
      cases hx : stripOps P L n ops.toList ops.toList with
      | none => rw [hx] at h; cases h
      | some sl => rw [hx] at h; cases h; exact region_sound (fun a ρ w h1 h2 h3 => ⟨ρ, h1, h2, h3⟩) hx H hs hv
    | true =>
      simp only [strip] at h
      split at h
      · rename_i hb
        rw [Bool.and_eq_true] at hb
        cases hx : stripDraw P L n ops (closAll ops) ops.size [] with
        | none =>
          rw [hx] at h
          cases hy : stripTree P L n ops (closAll ops) ops.size [] with
          | none => rw [hy] at h; cases h
          | some t => rw [hy] at h; cases h; exact tree_sound hm (fun a ρ w h1 h2 h3 => ⟨ρ, h1, h2, h3⟩) hb.1 hb.2 hy H hs hv
        | some sl => rw [hx] at h; cases h; exact draw_sound hm (fun a ρ w h1 h2 h3 => ⟨ρ, h1, h2, h3⟩) hb.1 hb.2 hx H hs hv
      · cases h
  | seq x y ihx ihy =>
    intro cd h Q w0 a ρ w H hs hv
    simp only [strip] at h
    split at h
    · rename_i cx cy h1 h2
      cases h
      refine wp_seq (wp_mono (ihx cx h1 _ w0 a ρ w H hs hv) ?_)
      intro e a' w' hq
      cases e with
      | normal => obtain ⟨ρ', k1, k2, k3⟩ := hq; exact ihy cy h2 Q w0 a' ρ' w' k1 k2 k3
      | exit id => obtain ⟨ρ', k1, k2, k3⟩ := hq; exact ⟨ρ', k1, k2, k3⟩
      | ret => obtain ⟨ρ', k1, k2, k3⟩ := hq; exact ⟨ρ', k1, k2, k3⟩
      | _ => exact hq.elim
    · cases h
  | cond o x y ihx ihy =>
    intro cd h Q w0 a ρ w H hs hv
    simp only [strip] at h
    split at h
    · rename_i cx cy h1 h2
      cases h
      simp only [Cd.vc] at hv
      cases ho : evo [] ρ o with
      | none => rw [ho] at hv; exact hv.elim
      | some u =>
        rw [ho] at hv
        simp only [Option.bind_some] at hv
        cases hb : asB u with
        | none => rw [hb] at hv; exact hv.elim
        | some t =>
          rw [hb] at hv
          have he : a.eval o = .bool t := by rw [H.evo ho]; exact asB_some hb
          refine wp_cond he ?_
          cases t with
          | true => exact ihx cx h1 Q w0 a ρ w H hs hv
          | false => exact ihy cy h2 Q w0 a ρ w H hs hv
    · cases h
  | block id x ih =>
    intro cd h Q w0 a ρ w H hs hv
    simp only [strip] at h
    cases hx : strip P L n x with
    | none => rw [hx] at h; cases h
    | some cx =>
      rw [hx] at h; cases h
      refine wp_block (wp_mono (ih cx hx _ w0 a ρ w H hs hv) ?_)
      intro e a' w' hq
      cases e with
      | normal => exact hq
      | exit id' =>
        obtain ⟨ρ', k1, k2, k3⟩ := hq
        simp only [Ex.inb] at k3
        simp only [Exit.inBlock]
        split
        · rename_i he; rw [if_pos he] at k3; exact ⟨ρ', k1, k2, k3⟩
        · rename_i he; rw [if_neg he] at k3; exact ⟨ρ', k1, k2, k3⟩
      | ret => exact hq
      | _ => exact hq.elim
  | loop x ih =>
    intro cd h Q w0 a ρ w H hs hv
    simp only [strip] at h
    cases hx : strip P L n x with
    | none => rw [hx] at h; cases h
    | some cx =>
      rw [hx] at h; cases h
      obtain ⟨ks, I, ⟨m0, h0⟩, hround⟩ := hv
      refine wp_loop_ghost (fun m a w => ∃ ρ, Ag L n a [] ρ ∧ Same w0 w ∧ I m ρ w.heap) ?_ m0 a w ⟨ρ.keep ks, H.keep ks, hs, h0⟩
      rintro m a' w' ⟨ρ', k1, k2, k3⟩
      refine wp_mono (ih cx hx _ w0 a' ρ' w' k1 k2 (hround m ρ' w'.heap k3)) ?_
      intro e a2 w2 hq
      cases e with
      | normal =>
        obtain ⟨ρ2, j1, j2, m', j3, j4⟩ := hq
        exact ⟨m', j3, ρ2.keep ks, j1.keep ks, j2, j4⟩
      | exit id => exact hq
      | ret => exact hq
      | _ => exact hq.elim
  | exit id => intro cd h Q w0 a ρ w H hs hv; cases h; exact wp_exit ⟨ρ, H, hs, hv⟩
  | ret => intro cd h Q w0 a ρ w H hs hv; cases h; exact wp_ret ⟨ρ, H, hs, hv⟩
  | rangeFunc _ _ _ _ _ _ => intro cd h; cases h
  | scope x ih =>
    intro cd h Q w0 a ρ w H hs hv
    refine wp_scope_straight (wp_mono (ih cd h Q w0 a ρ w H hs hv) ?_)
    intro e a' w' hq
    cases e with
    | normal => exact hq
    | exit id => exact hq
    | ret => exact hq
    | _ => exact hq.elim
  | label _ => intro cd h Q w0 a ρ w H hs hv; cases h; exact wp_label ⟨ρ, H, hs, hv⟩
  | goto _ => intro cd h Q w0 a ρ w H hs hv; cases h; exact False.elim hv
  | refuse _ => intro cd h; cases h
end

/-! ### The function's results -/

/-- Where the results lie: in slots, or in cells that slots point to. -/
def rslot : ResultVar → Nat × Option TypeId
  | .tmp t => (t, none)
  | .cell t ty => (t, some ty)
def resSlots (fn : Func) : List (Nat × Option TypeId) := fn.results.toList.map rslot
def OptK {α : Type} (o : Option α) (K : α → Prop) : Prop :=
  match o with
  | some v => K v
  | none => False
def res1 (P : Program) (ρ : Env) (h : Heap) : Nat × Option TypeId → Option Value
  | (t, none) => ρ.get t
  | (t, some ty) => (ρ.get t).bind fun v => rd P (do loadVar ty (← asAddr v)) h
def gets (P : Program) (ρ : Env) (h : Heap) : List (Nat × Option TypeId) → Option (List Value)
  | [] => some []
  | t :: r => (res1 P ρ h t).bind fun v => (gets P ρ h r).map fun l => v :: l
def tup : List Value → Value
  | [v] => v
  | l => .tuple l.toArray

def retQ (P : Program) (ts : List (Nat × Option TypeId)) (R : Value → Heap → Prop) : Ex → Env → Heap → Prop
  | .normal, ρ, h => OptK (gets P ρ h ts) fun l => R (tup l) h
  | .ret, ρ, h => OptK (gets P ρ h ts) fun l => R (tup l) h
  | _, _, _ => False

def initEnv (args : List Value) : List Nat → Env
  | [] => []
  | t :: r => (t, args.getD t undef) :: initEnv args r

theorem initEnv_get (args : List Value) : ∀ (L : List Nat) (t : Nat) (v : Value), (initEnv args L).get t = some v → L.contains t = true ∧ v = args.getD t undef := by
  intro L
  induction L with
  | nil => intro t v h; simp [initEnv, Env.get] at h
  | cons k r ih =>
    intro t v h
    simp only [initEnv, Env.get] at h
    split at h
    · rename_i he; subst he; cases h; exact ⟨by simp, rfl⟩
    · obtain ⟨h1, h2⟩ := ih t v h
      exact ⟨by simp only [List.contains_cons, h1, Bool.or_true], h2⟩

theorem rd_mapM {P : Program} {α : Type} (h : Heap) (f : α → Sem Value) : ∀ (l : List α) (vs : List Value), (l.map fun x => rd P (f x) h) = vs.map some → rd P (l.mapM f) h = some vs := by
  intro l
  induction l with
  | nil => intro vs hv; cases vs with
    | nil => rfl
    | cons v vs => simp at hv
  | cons x l ih =>
    intro vs hv
    cases vs with
    | nil => simp at hv
    | cons v vs =>
      simp only [List.map_cons, List.cons.injEq] at hv
      rw [List.mapM_cons, rd_bind', hv.1, Option.bind_some, rd_bind', ih vs hv.2]
      rfl

theorem results_eq {P : Program} {fn : Func} {a : Act} {ρ : Env} (H : ∀ t v, ρ.get t = some v → a.tmps[t]? = some v) {w : World} {l : List Value} (hl : gets P ρ w.heap (resSlots fn) = some l) :
    (results fn a.tmps).run P w = .ok (tup l) w := by
  refine rd_run _ w _ ?_
  have hfn : fn.results = fn.results.toList.toArray := by simp
  unfold results
  have key : ∀ (rs : List ResultVar) (l : List Value), gets P ρ w.heap (rs.map rslot) = some l →
      (rs.map fun x => rd P (match x with | .tmp t => pure (a.tmps.getD t undef) | .cell b t => do loadVar t (← asAddr (a.tmps.getD b undef)) : Sem Value) w.heap) = l.map some := by
    intro rs
    induction rs with
    | nil => intro l hl; simp only [List.map_nil, gets, Option.some.injEq] at hl; subst hl; rfl
    | cons r rs ih =>
      intro l hl
      simp only [List.map_cons, gets] at hl
      cases hv : res1 P ρ w.heap (rslot r) with
      | none => rw [hv] at hl; cases hl
      | some v =>
        rw [hv] at hl
        simp only [Option.bind_some] at hl
        cases hr : gets P ρ w.heap (rs.map rslot) with
        | none => rw [hr] at hl; cases hl
        | some l' =>
          rw [hr] at hl
          cases hl
          simp only [List.map_cons]
          rw [ih l' hr]
          congr 1
          cases r with
          | tmp t =>
            simp only [rslot, res1] at hv
            have := H t v hv
            simp [rd_pure, this]
          | cell t ty =>
            simp only [rslot, res1] at hv
            cases hg : ρ.get t with
            | none => rw [hg] at hv; cases hv
            | some u =>
              rw [hg] at hv
              have := H t u hg
              simp only [Option.bind_some] at hv
              have he : a.tmps.getD t undef = u := by simp [this]
              simp only [he]; exact hv
  have hk := key fn.results.toList l hl
  rw [rd_bind', hfn, List.mapM_toArray]
  have hmap : ∀ (s : Sem (List Value)), rd P s w.heap = some l → rd P (Functor.map List.toArray s) w.heap = some l.toArray := by
    intro s hs
    show rd P (s.bind fun x => Sem.pure x.toArray) w.heap = _
    rw [rd_bind, hs]; rfl
  rw [hmap _ (rd_mapM w.heap _ fn.results.toList l ?_), Option.bind_some]
  · match l with
    | [] => rfl
    | [v] => rfl
    | v :: u :: r => simp [tup, rd_pure]
  · exact (List.map_congr_left (fun x _ => by cases x <;> rfl)).trans hk

def stripF (P : Program) (L : List Nat) (fn : Func) : Option Cd :=
  match fn.body with
  | some c => strip P L fn.ntmps c
  | none => none

/-- A call, out of the transformer of its function's code. -/
theorem hcalls_of_vc {P : Program} {f : FuncId} {fn : Func} {cd : Cd} {L : List Nat} {ts : List (Nat × Option TypeId)} {args : List Value} {h : Heap} {R : Value → Heap → Prop} (hm : P.follows .mixedOrders = true)
    (hf : P.funcs[f]? = some fn) (hs : stripF P L fn = some cd) (hr : resSlots fn = ts) (hn : args.length ≤ fn.ntmps ∧ L.all (fun t => decide (t < fn.ntmps)) = true)
    (hv : cd.vc P (retQ P ts R) (initEnv args L) h) : HCalls P f args.toArray h R := by
  intro w hw
  unfold stripF at hs
  cases hb : fn.body with
  | none => rw [hb] at hs; cases hs
  | some c =>
    rw [hb] at hs
    simp only [] at hs
    refine calls_of_wp hf hb ?_
    have hsz : (args.toArray ++ Array.replicate (fn.ntmps - args.toArray.size) undef).size = fn.ntmps := by simp; omega
    have H : Ag L fn.ntmps { tmps := args.toArray ++ Array.replicate (fn.ntmps - args.toArray.size) undef, defers := [] } [] (initEnv args L) := by
      refine ⟨rfl, hsz, fun t v h => by simp [Env.get] at h, ?_, fun t v h => by simp [Env.get] at h, fun t v h => (initEnv_get args L t v h).1⟩
      intro t v h
      obtain ⟨h1, rfl⟩ := initEnv_get args L t v h
      have htn : t < fn.ntmps := by
        have := hn.2
        rw [List.all_eq_true] at this
        simpa using this t (by simpa using h1)
      by_cases hta : t < args.length
      · simp [Array.getElem?_append, hta]
      · have : t - args.length < fn.ntmps - args.length := by omega
        simp [Array.getElem?_append, hta, this]
    refine wp_mono (vc_sound hm c cd hs _ w _ _ w H (.refl w) (by rw [hw]; exact hv)) ?_
    intro e a' w' hq
    have fin : ∀ ρ, Ag L fn.ntmps a' [] ρ → Same w w' → OptK (gets P ρ w'.heap ts) (fun l => R (tup l) w'.heap) →
        a'.defers = [] ∧ ∃ v, (results fn a'.tmps).run P w' = .ok v w' ∧ (∃ v', Ending.returned v = .returned v' ∧ Same w w' ∧ R v' w'.heap) := by
      intro ρ k1 k2 k3
      cases hl : gets P ρ w'.heap ts with
      | none => rw [hl] at k3; exact k3.elim
      | some l => rw [hl] at k3; exact ⟨k1.nod, tup l, results_eq (fun t v h => k1.r1 t v h) (by rw [hr]; exact hl), tup l, rfl, k2, k3⟩
    cases e with
    | normal => obtain ⟨ρ, k1, k2, k3⟩ := hq; exact fin ρ k1 k2 k3
    | ret => obtain ⟨ρ, k1, k2, k3⟩ := hq; exact fin ρ k1 k2 k3
    | exit id => obtain ⟨ρ, k1, k2, k3⟩ := hq; exact k3.elim
    | _ => exact hq.elim
end Go.Vc

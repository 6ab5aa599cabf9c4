/- A predicate transformer over heaps for the code of a function: small environments, no tape, no draws; sound for the model's Calls. No condition. -/
import Derived.Tactics
import Derived.Orders
import Derived.KernelRfl
namespace Go.Vc
set_option linter.unusedSimpArgs false
set_option linter.unusedVariables false

abbrev Heap := Array Obj

def cellAt (h : Heap) (a : Addr) : Option Value :=
  match h[a.block]? with
  | some (.cells c _ _) => if a.spot.isSome then none else c[a.off]?
  | _ => none
def shapeAt (h : Heap) (r : Nat) : Option (TypeId × Nat) :=
  match h[r]? with
  | some (.cells c e _) => some (e, c.size)
  | _ => none
def frozenAt (h : Heap) (a : Addr) : Bool :=
  match h[a.block]? with
  | some (.cells _ _ (lo, hi)) => lo ≤ a.off && a.off < hi
  | _ => false
def setAt (h : Heap) (a : Addr) (v : Value) : Heap :=
  h.modify a.block fun
    | .cells c e f => .cells (if a.spot.isSome then c else c.setIfInBounds a.off v) e f
    | o => o
def freezeAt (h : Heap) (a : Addr) (n : Nat) : Heap :=
  if n = 0 then h else
  h.modify a.block fun
    | .cells c e (lo, hi) => .cells c e (if lo == hi then (a.off, a.off + n) else (min lo a.off, max hi (a.off + n)))
    | o => o
def oneCell : Value → Bool
  | .agg _ => false
  | .tuple _ => false
  | _ => true

/-- What a meaning does to the heap, whatever the tape says. -/
def hr (P : Program) {α : Type} : Sem α → Heap → (α → Heap → Prop) → Prop
  | .pure a, h, K => K a h
  | .load _ a k, h, K => match cellAt h a with
    | some v => hr P (k v) h K
    | none => False
  | .store _ a v k, h, K => oneCell v = true ∧ (cellAt h a).isSome = true ∧ frozenAt h a = false ∧ hr P k (setAt h a v) K
  | .new o k, h, K => hr P (k h.size) (h.push o) K
  | .shape r k, h, K => hr P (k (shapeAt h r)) h K
  | .freeze a n k, h, K => hr P k (freezeAt h a n) K
  | .frozen a k, h, K => hr P (k (frozenAt h a)) h K
  | .getObj r k, h, K => match h[r]? with
    | some (.cells ..) => False
    | some o => hr P (k o) h K
    | none => False
  | .setObj r o k, h, K => match h[r]? with
    | some (.cells ..) => False
    | some _ => hr P k (h.setIfInBounds r o) K
    | none => False
  | .choose q k, h, K => ∀ t, hr P (k (if q.forced then 0 else q.cut t)) h K
  | .sys _ _, _, _ => False
  | .program k, h, K => hr P (k P) h K
  | .mark _ k, h, K => hr P k h K
  | .halt _, _, _ => False

/-- What a meaning that only reads yields. -/
def rd (P : Program) {α : Type} : Sem α → Heap → Option α
  | .pure a, _ => some a
  | .load _ a k, h => match cellAt h a with
    | some v => rd P (k v) h
    | none => none
  | .shape r k, h => rd P (k (shapeAt h r)) h
  | .frozen a k, h => rd P (k (frozenAt h a)) h
  | .getObj r k, h => match h[r]? with
    | some (.cells ..) => none
    | some o => rd P (k o) h
    | none => none
  | .choose q k, h => if q.forced then rd P (k 0) h else none
  | .program k, h => rd P (k P) h
  | .mark _ k, h => rd P k h
  | _, _ => none

structure Same (w w' : World) : Prop where
  os : w'.os = w.os
  tape : w'.tape = w.tape
  output : w'.output = w.output

theorem Same.refl (w : World) : Same w w := ⟨rfl, rfl, rfl⟩
theorem Same.trans {a b c : World} (h : Same a b) (k : Same b c) : Same a c := ⟨k.os.trans h.os, k.tape.trans h.tape, k.output.trans h.output⟩

theorem setCell_heap (w : World) (a : Addr) (v : Value) : (w.setCell a v).heap = setAt w.heap a v := rfl

theorem hr_run {P : Program} {α : Type} (s : Sem α) : ∀ (w : World) (K : α → Heap → Prop), hr P s w.heap K →
    ∃ v w', s.run P w = .ok v w' ∧ Same w w' ∧ K v w'.heap := by
  induction s with
  | pure a => intro w K h; exact ⟨a, w, rfl, .refl w, h⟩
  | load m a k ih =>
    intro w K h
    simp only [hr] at h
    have hc : w.cell? a = cellAt w.heap a := rfl
    cases hv : cellAt w.heap a with
    | none => rw [hv] at h; exact h.elim
    | some v =>
      rw [hv] at h
      obtain ⟨u, w', h1, h2, h3⟩ := ih v w K h
      exact ⟨u, w', by simp only [Sem.run, hc, hv]; exact h1, h2, h3⟩
  | store m a v k ih =>
    intro w K h
    obtain ⟨h1, h2, h3, h4⟩ := h
    have hc : w.cell? a = cellAt w.heap a := rfl
    have hf : w.frozen? a = frozenAt w.heap a := rfl
    obtain ⟨u, hu⟩ := Option.isSome_iff_exists.1 h2
    obtain ⟨x, w', r1, r2, r3⟩ := ih (w.setCell a v) K h4
    refine ⟨x, w', ?_, ⟨r2.os, r2.tape, r2.output⟩, r3⟩
    cases v <;> simp [oneCell] at h1 <;> simp only [Sem.run, hc, hu, hf, h3, Bool.false_eq_true, if_false] <;> exact r1
  | new o k ih =>
    intro w K h
    obtain ⟨x, w', r1, r2, r3⟩ := ih w.heap.size { w with heap := w.heap.push o } K h
    exact ⟨x, w', r1, ⟨r2.os, r2.tape, r2.output⟩, r3⟩
  | shape r k ih =>
    intro w K h
    obtain ⟨x, w', r1, r2, r3⟩ := ih (shapeAt w.heap r) w K h
    exact ⟨x, w', r1, r2, r3⟩
  | freeze a n k ih =>
    intro w K h
    have hz : (w.freeze a n).heap = freezeAt w.heap a n := by
      unfold World.freeze freezeAt; split <;> rfl
    have hs : Same w (w.freeze a n) := by unfold World.freeze; split <;> exact ⟨rfl, rfl, rfl⟩
    obtain ⟨x, w', r1, r2, r3⟩ := ih (w.freeze a n) K (by rw [hz]; exact h)
    exact ⟨x, w', r1, hs.trans r2, r3⟩
  | frozen a k ih =>
    intro w K h
    obtain ⟨x, w', r1, r2, r3⟩ := ih (frozenAt w.heap a) w K h
    exact ⟨x, w', r1, r2, r3⟩
  | getObj r k ih =>
    intro w K h
    simp only [hr] at h
    simp only [Sem.run]
    cases ho : w.heap[r]? with
    | none => simp [ho] at h
    | some o =>
      simp only [ho] at h
      cases o <;> first | exact h.elim | exact ih _ w K h
  | setObj r o k ih =>
    intro w K h
    simp only [hr] at h
    simp only [Sem.run]
    cases ho : w.heap[r]? with
    | none => simp [ho] at h
    | some o' =>
      simp only [ho] at h
      cases o' <;> first | exact h.elim | (obtain ⟨x, w', r1, r2, r3⟩ := ih { w with heap := w.heap.setIfInBounds r o } K h; exact ⟨x, w', r1, ⟨r2.os, r2.tape, r2.output⟩, r3⟩)
  | choose q k ih =>
    intro w K h
    simp only [hr] at h
    simp only [Sem.run]
    by_cases hq : q.forced = true
    · rw [if_pos hq]
      have := h 0
      rw [if_pos hq] at this
      exact ih 0 w K this
    · rw [if_neg hq]
      have := h (w.tape w.drawn q)
      rw [if_neg hq] at this
      obtain ⟨x, w', r1, r2, r3⟩ := ih _ { w with drawn := w.drawn + 1 } K this
      exact ⟨x, w', r1, ⟨r2.os, r2.tape, r2.output⟩, r3⟩
  | sys c k ih => intro w K h; exact h.elim
  | program k ih =>
    intro w K h
    obtain ⟨x, w', r1, r2, r3⟩ := ih P w K h
    exact ⟨x, w', r1, r2, r3⟩
  | mark m k ih =>
    intro w K h
    obtain ⟨x, w', r1, r2, r3⟩ := ih w K h
    exact ⟨x, w', r1, r2, r3⟩
  | halt x => intro w K h; exact h.elim

/-- The same, said of every world of the heap. -/
def sr (P : Program) {α : Type} (s : Sem α) (h : Heap) (K : α → Heap → Prop) : Prop := ∀ w : World, w.heap = h → ∃ v w', s.run P w = .ok v w' ∧ Same w w' ∧ K v w'.heap
theorem sr_of_hr {P : Program} {α : Type} {s : Sem α} {h : Heap} {K : α → Heap → Prop} (H : hr P s h K) : sr P s h K := fun w hw => hr_run s w K (by rw [hw]; exact H)

theorem hr_bind {P : Program} {α β : Type} (s : Sem α) (f : α → Sem β) : ∀ (h : Heap) (K : β → Heap → Prop),
    hr P (s.bind f) h K = hr P s h (fun v h' => hr P (f v) h' K) := by
  induction s with
  | pure a => intro h K; rfl
  | load m a k ih => intro h K; simp only [Sem.bind, hr]; split <;> simp_all
  | store m a v k ih => intro h K; simp only [Sem.bind, hr, ih]
  | new o k ih => intro h K; simp only [Sem.bind, hr, ih]
  | shape r k ih => intro h K; simp only [Sem.bind, hr, ih]
  | freeze a n k ih => intro h K; simp only [Sem.bind, hr, ih]
  | frozen a k ih => intro h K; simp only [Sem.bind, hr, ih]
  | getObj r k ih => intro h K; simp only [Sem.bind, hr]; split <;> simp_all
  | setObj r o k ih => intro h K; simp only [Sem.bind, hr]; split <;> simp_all
  | choose q k ih => intro h K; simp only [Sem.bind, hr, ih]
  | sys c k ih => intro h K; rfl
  | program k ih => intro h K; simp only [Sem.bind, hr, ih]
  | mark m k ih => intro h K; simp only [Sem.bind, hr, ih]
  | halt x => intro h K; rfl

theorem hr_bind' {P : Program} {α β : Type} (s : Sem α) (f : α → Sem β) (h : Heap) (K : β → Heap → Prop) :
    hr P (s >>= f) h K = hr P s h (fun v h' => hr P (f v) h' K) := hr_bind s f h K
theorem hr_pure {P : Program} {α : Type} (a : α) (h : Heap) (K : α → Heap → Prop) : hr P (pure a : Sem α) h K = K a h := rfl

theorem hr_mono {P : Program} {α : Type} (s : Sem α) : ∀ (h : Heap) (K K' : α → Heap → Prop), hr P s h K → (∀ v h', K v h' → K' v h') → hr P s h K' := by
  induction s with
  | pure a => intro h K K' H m; exact m _ _ H
  | load m a k ih => intro h K K' H m; simp only [hr] at H ⊢; split <;> simp_all; exact ih _ _ _ _ H m
  | store m a v k ih => intro h K K' H m; exact ⟨H.1, H.2.1, H.2.2.1, ih _ _ _ H.2.2.2 m⟩
  | new o k ih => intro h K K' H m; exact ih _ _ _ _ H m
  | shape r k ih => intro h K K' H m; exact ih _ _ _ _ H m
  | freeze a n k ih => intro h K K' H m; exact ih _ _ _ H m
  | frozen a k ih => intro h K K' H m; exact ih _ _ _ _ H m
  | getObj r k ih =>
    intro h K K' H m
    simp only [hr] at H ⊢
    cases ho : h[r]? with
    | none => simp [ho] at H
    | some o => simp only [ho] at H ⊢; cases o <;> first | exact H.elim | exact ih _ _ _ _ H m
  | setObj r o k ih =>
    intro h K K' H m
    simp only [hr] at H ⊢
    cases ho : h[r]? with
    | none => simp [ho] at H
    | some o => simp only [ho] at H ⊢; cases o <;> first | exact H.elim | exact ih _ _ _ H m
  | choose q k ih => intro h K K' H m; exact fun t => ih _ _ _ _ (H t) m
  | sys c k ih => intro h K K' H m; exact H
  | program k ih => intro h K K' H m; exact ih _ _ _ _ H m
  | mark m k ih => intro h K K' H m; exact ih _ _ _ H m
  | halt x => intro h K K' H m; exact H

/-- What only reads is a transformer that hands on what it yields. -/
theorem hr_of_rd {P : Program} {α : Type} (s : Sem α) : ∀ (h : Heap) (v : α) (K : α → Heap → Prop), rd P s h = some v → K v h → hr P s h K := by
  induction s with
  | pure a => intro h v K H k; cases H; exact k
  | load m a k ih =>
    intro h v K H kk
    simp only [rd] at H
    simp only [hr]
    cases hc : cellAt h a with
    | none => simp [hc] at H
    | some u => simp only [hc] at H; exact ih _ _ _ _ H kk
  | store m a v k ih => intro h u K H kk; simp [rd] at H
  | new o k ih => intro h u K H kk; simp [rd] at H
  | shape r k ih => intro h u K H kk; exact ih _ _ _ _ H kk
  | freeze a n k ih => intro h u K H kk; simp [rd] at H
  | frozen a k ih => intro h u K H kk; exact ih _ _ _ _ H kk
  | getObj r k ih =>
    intro h u K H kk
    simp only [rd] at H
    simp only [hr]
    cases ho : h[r]? with
    | none => simp [ho] at H
    | some o => simp only [ho] at H; cases o <;> first | (simp at H; done) | exact ih _ _ _ _ H kk
  | setObj r o k ih => intro h u K H kk; simp [rd] at H
  | choose q k ih =>
    intro h u K H kk
    simp only [rd] at H
    simp only [hr]
    intro t
    by_cases hq : q.forced = true
    · rw [if_pos hq] at H ⊢; exact ih _ _ _ _ H kk
    · rw [if_neg hq] at H; cases H
  | sys c k ih => intro h u K H kk; simp [rd] at H
  | program k ih => intro h u K H kk; exact ih _ _ _ _ H kk
  | mark m k ih => intro h u K H kk; exact ih _ _ _ H kk
  | halt x => intro h u K H kk; simp [rd] at H

theorem rd_bind {P : Program} {α β : Type} (s : Sem α) (f : α → Sem β) : ∀ (h : Heap), rd P (s.bind f) h = (rd P s h).bind fun v => rd P (f v) h := by
  induction s with
  | pure a => intro h; rfl
  | load m a k ih => intro h; simp only [Sem.bind, rd]; split <;> simp_all
  | store m a v k ih => intro h; rfl
  | new o k ih => intro h; rfl
  | shape r k ih => intro h; simp only [Sem.bind, rd, ih]
  | freeze a n k ih => intro h; rfl
  | frozen a k ih => intro h; simp only [Sem.bind, rd, ih]
  | getObj r k ih => intro h; simp only [Sem.bind, rd]; split <;> simp_all
  | setObj r o k ih => intro h; rfl
  | choose q k ih => intro h; simp only [Sem.bind, rd]; split <;> simp_all
  | sys c k ih => intro h; rfl
  | program k ih => intro h; simp only [Sem.bind, rd, ih]
  | mark m k ih => intro h; simp only [Sem.bind, rd, ih]
  | halt x => intro h; rfl
theorem rd_bind' {P : Program} {α β : Type} (s : Sem α) (f : α → Sem β) (h : Heap) : rd P (s >>= f) h = (rd P s h).bind fun v => rd P (f v) h := rd_bind s f h
theorem rd_pure {P : Program} {α : Type} (a : α) (h : Heap) : rd P (pure a : Sem α) h = some a := rfl

/-! ### Calls, over heaps -/

/-- The call returns, from whatever world of this heap; nothing but the heap (and the count of draws) turns. -/
def HCalls (P : Program) (f : FuncId) (args : Array Value) (h : Heap) (R : Value → Heap → Prop) : Prop :=
  ∀ w : World, w.heap = h → Calls P f args w fun e w' => ∃ v, e = .returned v ∧ Same w w' ∧ R v w'.heap

theorem HCalls.mono {P : Program} {f : FuncId} {args : Array Value} {h : Heap} {R R' : Value → Heap → Prop} (H : HCalls P f args h R)
    (m : ∀ v h', R v h' → R' v h') : HCalls P f args h R' :=
  fun w hw => (H w hw).mono fun _ _ ⟨v, h1, h2, h3⟩ => ⟨v, h1, h2, m _ _ h3⟩

/-! ### Environments -/

abbrev Env := List (Nat × Value)
def Env.get : Env → Nat → Option Value
  | [], _ => none
  | (k, v) :: r, t => if k = t then some v else Env.get r t
def Env.set : Env → Nat → Value → Env
  | [], t, v => [(t, v)]
  | (k, u) :: r, t, v => if k = t then (k, v) :: r else (k, u) :: Env.set r t v
def Env.keep : List Nat → Env → Env
  | [], _ => []
  | k :: ks, ρ => match Env.get ρ k with
    | some v => (k, v) :: Env.keep ks ρ
    | none => Env.keep ks ρ

theorem Env.get_set (ρ : Env) (t : Nat) (v : Value) (u : Nat) : (Env.set ρ t v).get u = if t = u then some v else ρ.get u := by
  induction ρ with
  | nil => simp [Env.set, Env.get]
  | cons p r ih =>
    obtain ⟨k, x⟩ := p
    simp only [Env.set]
    by_cases hk : k = t
    · subst hk; simp only [if_true, Env.get]; split <;> rfl
    · simp only [hk, if_false, Env.get, ih]
      by_cases hu : k = u
      · subst hu; simp [Ne.symm hk]
      · simp [hu]

theorem Env.get_keep (ks : List Nat) (ρ : Env) (t : Nat) (v : Value) (h : (Env.keep ks ρ).get t = some v) : ρ.get t = some v := by
  induction ks with
  | nil => simp [Env.keep, Env.get] at h
  | cons k ks ih =>
    simp only [Env.keep] at h
    cases hk : Env.get ρ k with
    | none => rw [hk] at h; exact ih h
    | some u =>
      rw [hk] at h
      simp only [Env.get] at h
      split at h
      · rename_i he; subst he; rw [hk]; exact h
      · exact ih h

def lk (τ ρ : Env) (t : Nat) : Option Value :=
  match τ.get t with
  | some v => some v
  | none => ρ.get t

def evo (τ ρ : Env) : Operand → Option Value
  | .tmp t => lk τ ρ t
  | .const v => some v
  | .global g => some (.pointer (some ⟨g, 0, none⟩))
  | .func f => some (.func (.func f) #[] #[])
def evd (τ ρ : Env) (x : Operand) : Value := (evo τ ρ x).getD undef

/-! ### Stripped code -/

structure Sop where
  dst : Option (Nat × Bool)
  op : Op
  type : TypeId
  guard : Option (Nat × Bool)
  q : Bool

def Sop.oper (o : Sop) : Oper := { dst := none, op := o.op, type := o.type, pos := "", after := #[], guard := none }

/-- A region whose writers may come up in more than one order. -/
inductive Dt where
  | done
  | run (o : Sop) (re : List Sop) (next : Dt)
  | both (a b : Dt)

inductive Cd where
  | skip
  | region (ops : List Sop)
  | draw (ops : List (Sop × List Sop))
  | tree (t : Dt)
  | seq (a b : Cd)
  | cond (c : Operand) (a b : Cd)
  | block (id : Nat) (a : Cd)
  | loop (a : Cd)
  | exit (id : Nat)
  | ret

def putT (d : Option (Nat × Bool)) (v : Value) (τ : Env) : Env :=
  match d with
  | some (t, false) => (t, v) :: τ
  | _ => τ
def putR (d : Option (Nat × Bool)) (v : Value) (ρ : Env) : Env :=
  match d with
  | some (t, true) => ρ.set t v
  | _ => ρ

def asB : Value → Option Bool
  | .bool b => some b
  | _ => none

def known (τ ρ : Env) (op : Op) : Prop := ∀ x ∈ op.operands, (evo τ ρ x).isSome = true
instance (τ ρ : Env) (op : Op) : Decidable (known τ ρ op) := by unfold known; infer_instance

def nextTo (P : Program) (K : Value → Heap → Prop) : Next → Heap → Prop
  | .value v, h => K v h
  | .skip, h => K undef h
  | .enter f args, h => HCalls P f args h K
  | _, _ => False

def valOf : Option Next → Option Value
  | some (.value v) => some v
  | _ => none

def rdOp (P : Program) (o : Sop) (τ ρ : Env) (h : Heap) : Option Value :=
  if known τ ρ o.op then valOf (rd P (execOp (evd τ ρ) o.oper) h) else none

def vcOp (P : Program) (o : Sop) (τ ρ : Env) (h : Heap) (K : Value → Heap → Prop) : Prop :=
  known τ ρ o.op ∧ sr P (execOp (evd τ ρ) o.oper) h (fun nx h' => nextTo P K nx h')

/-- One operation, its guard not looked at. -/
def vcRun (P : Program) (o : Sop) (τ ρ : Env) (h : Heap) (N : Env → Env → Heap → Prop) : Prop :=
  if o.q then
    match rdOp P o τ ρ h with
    | some v => N (putT o.dst v τ) (putR o.dst v ρ) h
    | none => False
  else vcOp P o τ ρ h (fun v h' => N (putT o.dst v τ) (putR o.dst v ρ) h')

def vcOne (P : Program) (o : Sop) (τ ρ : Env) (h : Heap) (N : Env → Env → Heap → Prop) : Prop :=
  match o.guard with
  | none => vcRun P o τ ρ h N
  | some (g, want) =>
    match lk τ ρ g with
    | some v => if asB v = some want then vcRun P o τ ρ h N else N (putT o.dst undef τ) (putR o.dst undef ρ) h
    | none => False

def vcOps (P : Program) (K : Env → Heap → Prop) : List Sop → Env → Env → Heap → Prop
  | [], _, ρ, h => K ρ h
  | o :: r, τ, ρ, h => vcOne P o τ ρ h (vcOps P K r)

inductive Ex where
  | normal
  | exit (id : Nat)
  | ret

def Ex.thn (next : Env → Heap → Prop) (Q : Ex → Env → Heap → Prop) : Ex → Env → Heap → Prop
  | .normal, ρ, h => next ρ h
  | e, ρ, h => Q e ρ h
def Ex.inb (id : Nat) (Q : Ex → Env → Heap → Prop) : Ex → Env → Heap → Prop
  | .exit id', ρ, h => if id' = id then Q .normal ρ h else Q (.exit id') ρ h
  | e, ρ, h => Q e ρ h

end Go.Vc

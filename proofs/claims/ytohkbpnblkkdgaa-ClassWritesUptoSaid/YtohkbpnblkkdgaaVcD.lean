/- The canonical order of a region that draws, and that it serves every order. No condition. -/
import Derived.Test.YtohkbpnblkkdgaaVcC
namespace Go.Vc
set_option linter.unusedSimpArgs false
set_option linter.unusedVariables false

def depsOf (ops : Array Oper) (i : Nat) : List Nat :=
  match ops[i]? with
  | some o => (o.after.toList.filter (Region.binds .any ·)).map (·.on)
  | none => []
def dd : List Nat → List Nat → List Nat
  | _, [] => []
  | seen, x :: r => if seen.contains x then dd seen r else x :: dd (x :: seen) r
theorem mem_dd : ∀ (l seen : List Nat) (x : Nat), x ∈ dd seen l → x ∈ l := by
  intro l
  induction l with
  | nil => intro seen x h; exact h
  | cons y r ih =>
    intro seen x h
    simp only [dd] at h
    split at h
    · exact List.mem_cons_of_mem _ (ih _ _ h)
    · rcases List.mem_cons.1 h with h | h
      · rw [h]; exact List.mem_cons_self
      · exact List.mem_cons_of_mem _ (ih _ _ h)
def grow (ops : Array Oper) : Nat → List Nat → List Nat
  | 0, l => l
  | f + 1, l =>
    match dd l (l.flatMap (depsOf ops)) with
    | [] => l
    | new => grow ops f (l ++ new)
def clos (ops : Array Oper) (i : Nat) : List Nat := grow ops ops.size (depsOf ops i)

theorem mem_grow {ops : Array Oper} {p : Nat → Prop} (hp : ∀ x, p x → ∀ y ∈ depsOf ops x, p y) : ∀ (f : Nat) (l : List Nat), (∀ x ∈ l, p x) → ∀ x ∈ grow ops f l, p x := by
  intro f
  induction f with
  | zero => intro l h; exact h
  | succ f ih =>
    intro l h x hx
    simp only [grow] at hx
    split at hx
    · exact h x hx
    · refine ih _ ?_ x hx
      intro y hy
      rcases List.mem_append.1 hy with hy | hy
      · exact h y hy
      · obtain ⟨z, hz, hyz⟩ := List.mem_flatMap.1 (mem_dd _ _ _ hy)
        exact hp z (h z hz) y hyz
theorem mem_clos {ops : Array Oper} {p : Nat → Prop} (hp : ∀ x, p x → ∀ y ∈ depsOf ops x, p y) {i : Nat} (hi : ∀ y ∈ depsOf ops i, p y) : ∀ x ∈ clos ops i, p x :=
  mem_grow hp _ _ hi

def quietAt (P : Program) (ops : Array Oper) (i : Nat) : Bool :=
  match ops[i]? with
  | some o => quietOp P o.op
  | none => false
def freeAt (ops : Array Oper) (i : Nat) : Bool :=
  match ops[i]? with
  | some o => heapFree o.op
  | none => false
def dstAt (ops : Array Oper) (i : Nat) : Option Nat := (ops[i]?).bind (·.dst)
def looks (ops : Array Oper) (i : Nat) : List Nat :=
  match ops[i]? with
  | some o => o.looksAt ops
  | none => []
def readyB (ops : Array Oper) (V : List Nat) (i : Nat) : Bool := !V.contains i && (depsOf ops i).all fun j => V.contains j

def pickD (P : Program) (ops : Array Oper) (V : List Nat) : Option Nat :=
  match (List.range ops.size).find? (fun i => readyB ops V i && quietAt P ops i) with
  | some i => some i
  | none => (List.range ops.size).find? (readyB ops V)

def stripAt (P : Program) (L : List Nat) (n : Nat) (ops : Array Oper) (i : Nat) : Option Sop := (ops[i]?).bind (stripOp P L n ops.toList)
def stripsAt (P : Program) (L : List Nat) (n : Nat) (ops : Array Oper) : List Nat → Option (List Sop)
  | [] => some []
  | i :: r => match stripAt P L n ops i, stripsAt P L n ops r with
    | some s, some t => some (s :: t)
    | _, _ => none
def reOf (P : Program) (ops : Array Oper) (cl : List (List Nat)) (V : List Nat) (i : Nat) : List Nat :=
  V.filter fun k => quietAt P ops k && !freeAt ops k && !(cl.getD i []).contains k

def stripDraw (P : Program) (L : List Nat) (n : Nat) (ops : Array Oper) (cl : List (List Nat)) : Nat → List Nat → Option (List (Sop × List Sop))
  | 0, V => if (List.range ops.size).all (fun i => V.contains i) then some [] else none
  | f + 1, V =>
    match pickD P ops V with
    | none => if (List.range ops.size).all (fun i => V.contains i) then some [] else none
    | some i =>
      if quietAt P ops i then
        match stripAt P L n ops i, stripDraw P L n ops cl f (V ++ [i]) with
        | some s, some r => some ((s, []) :: r)
        | _, _ => none
      else if (List.range ops.size).all (fun j => j == i || !readyB ops V j) then
        match stripAt P L n ops i, stripsAt P L n ops (reOf P ops cl V i), stripDraw P L n ops cl f (V ++ [i]) with
        | some s, some re, some r => some ((s, re) :: r)
        | _, _, _ => none
      else none

def drawOk (P : Program) (n : Nat) (ops : Array Oper) (cl : List (List Nat)) : Bool :=
  (List.range ops.size).all fun j =>
    match dstAt ops j with
    | none => true
    | some t => decide (t < n) && (List.range ops.size).all fun k =>
        (j == k || dstAt ops k != some t) &&
        (!(looks ops k).contains t || (j != k && ((cl.getD k []).contains j || ((cl.getD j []).contains k && (List.range ops.size).all fun p => quietAt P ops p || p == j || (cl.getD j []).contains p))))

def closAll (ops : Array Oper) : List (List Nat) := (List.range ops.size).map (clos ops)

theorem closAll_getD {ops : Array Oper} {i : Nat} (h : i < ops.size) : (closAll ops).getD i [] = clos ops i := by
  simp [closAll, h]

structure DrawOk (P : Program) (n : Nat) (ops : Array Oper) : Prop where
  d1 : ∀ j k t, dstAt ops j = some t → dstAt ops k = some t → j = k
  d2 : ∀ j t, dstAt ops j = some t → t < n
  d3 : ∀ j k t, dstAt ops j = some t → t ∈ looks ops k → j ≠ k ∧ (j ∈ clos ops k ∨ (k ∈ clos ops j ∧ ∀ p, p < ops.size → quietAt P ops p = true ∨ p = j ∨ p ∈ clos ops j))

theorem dstAt_lt {ops : Array Oper} {j t : Nat} (h : dstAt ops j = some t) : j < ops.size := by
  rcases Nat.lt_or_ge j ops.size with h' | h'
  · exact h'
  · simp [dstAt, Array.getElem?_eq_none h'] at h
theorem looks_lt {ops : Array Oper} {j t : Nat} (h : t ∈ looks ops j) : j < ops.size := by
  rcases Nat.lt_or_ge j ops.size with h' | h'
  · exact h'
  · simp [looks, Array.getElem?_eq_none h'] at h

theorem drawOk_spec {P : Program} {n : Nat} {ops : Array Oper} (h : drawOk P n ops (closAll ops) = true) : DrawOk P n ops := by
  unfold drawOk at h
  rw [List.all_eq_true] at h
  have key : ∀ j t, dstAt ops j = some t → t < n ∧ ∀ k, k < ops.size →
      (j = k ∨ dstAt ops k ≠ some t) ∧ (t ∉ looks ops k ∨ (j ≠ k ∧ (j ∈ clos ops k ∨ (k ∈ clos ops j ∧ ∀ p, p < ops.size → quietAt P ops p = true ∨ p = j ∨ p ∈ clos ops j)))) := by
    intro j t hj
    have hlt := dstAt_lt hj
    have := h j (List.mem_range.2 hlt)
    rw [hj] at this
    simp only [Bool.and_eq_true, decide_eq_true_eq, List.all_eq_true, List.mem_range] at this
    refine ⟨this.1, fun k hk => ?_⟩
    have h2 := this.2 k hk
    simp only [Bool.and_eq_true, Bool.or_eq_true, beq_iff_eq, bne_iff_ne, Bool.not_eq_true', List.all_eq_true, List.mem_range, closAll_getD hk, closAll_getD hlt, List.contains_eq_mem, decide_eq_true_eq, decide_eq_false_iff_not] at h2
    refine ⟨h2.1, ?_⟩
    rcases h2.2 with h3 | ⟨h3, h4⟩
    · exact .inl h3
    · refine .inr ⟨h3, ?_⟩
      rcases h4 with h4 | ⟨h4, h5⟩
      · exact .inl h4
      · exact .inr ⟨h4, fun p hp => by rcases h5 p hp with (h6 | h6) | h6; exact .inl h6; exact .inr (.inl h6); exact .inr (.inr h6)⟩
  refine ⟨?_, fun j t hj => (key j t hj).1, ?_⟩
  · intro j k t hj hk
    rcases ((key j t hj).2 k (dstAt_lt hk)).1 with h1 | h1
    · exact h1
    · exact absurd hk h1
  · intro j k t hj hk
    rcases ((key j t hj).2 k (looks_lt hk)).2 with h1 | h1
    · exact absurd hk h1
    · exact h1

/-! ### Frames that hold what some operations yielded -/

structure FrameOf (ops : Array Oper) (S : Nat → Prop) (val : Nat → Value) (a0 a : Act) : Prop where
  df : a.defers = a0.defers
  sz : a.tmps.size = a0.tmps.size
  yes : ∀ j t, S j → dstAt ops j = some t → a.tmps[t]? = some (val j)
  no : ∀ t, (∀ j, S j → dstAt ops j ≠ some t) → a.tmps[t]? = a0.tmps[t]?

def upd (val : Nat → Value) (i : Nat) (v : Value) : Nat → Value := fun j => if j = i then v else val j

section
variable {P : Program} {L : List Nat} {n : Nat} {ops : Array Oper} {Q : Exit → Act → World → Prop}

theorem FrameOf.put (D : DrawOk P n ops) {S S' : Nat → Prop} {val : Nat → Value} {a0 a : Act} (H : FrameOf ops S val a0 a) (hn : a0.tmps.size = n) {i : Nat} (hi : ¬ S i) (hS : ∀ j, S' j ↔ (S j ∨ j = i)) (v : Value)
    {val' : Nat → Value} (hv : val' i = v) (hvs : ∀ j, S j → val' j = val j) : FrameOf ops S' val' a0 (a.put (dstAt ops i) v) := by
  cases hd : dstAt ops i with
  | none =>
    refine ⟨H.df, H.sz, ?_, ?_⟩
    · intro j t hj ht
      rcases (hS j).1 hj with h | h
      · rw [hvs j h]; exact H.yes j t h ht
      · subst h; rw [hd] at ht; cases ht
    · intro t ht
      exact H.no t fun j hj => ht j ((hS j).2 (.inl hj))
  | some d =>
    have hlt : d < a.tmps.size := by rw [H.sz, hn]; exact D.d2 i d hd
    have hget : ∀ u, (a.put (some d) v).tmps[u]? = if d = u then some v else a.tmps[u]? := by
      intro u
      simp only [Act.put, Array.getElem?_setIfInBounds]
      by_cases h : d = u
      · subst h; simp [hlt]
      · simp [h]
    refine ⟨H.df, by simp [Act.put, H.sz], ?_, ?_⟩
    · intro j t hj ht
      rw [hget]
      rcases (hS j).1 hj with h | h
      · have : d ≠ t := fun e => by subst e; exact hi ((D.d1 j i d ht hd) ▸ h)
        rw [if_neg this, hvs j h]; exact H.yes j t h ht
      · subst h; rw [hd] at ht; cases ht; rw [if_pos rfl, hv]
    · intro t ht
      have : d ≠ t := fun e => by subst e; exact ht i ((hS i).2 (.inr rfl)) hd
      rw [hget, if_neg this]
      exact H.no t fun j hj => ht j ((hS j).2 (.inl hj))

/-- The arguments that operation k is to see. -/
def CA (ops : Array Oper) (val : Nat → Value) (a0 : Act) (k : Nat) (b : Act) : Prop :=
  ∀ t ∈ looks ops k, (∀ j, dstAt ops j = some t → j ∈ clos ops k → b.tmps[t]? = some (val j)) ∧ ((∀ j, dstAt ops j = some t → j ∉ clos ops k) → b.tmps[t]? = a0.tmps[t]?)

theorem FrameOf.ca (D : DrawOk P n ops) {S : Nat → Prop} {val : Nat → Value} {a0 a : Act} (H : FrameOf ops S val a0 a) {k : Nat} (hk : ∀ j ∈ clos ops k, S j)
    (hn : ∀ j t, S j → dstAt ops j = some t → t ∈ looks ops k → j ∈ clos ops k) : CA ops val a0 k a := by
  intro t ht
  refine ⟨fun j hj hc => H.yes j t (hk j hc) hj, fun hno => H.no t fun j hj hd => hno j hd (hn j t hj hd ht)⟩

theorem CA.same (D : DrawOk P n ops) {val : Nat → Value} {a0 a b : Act} {k : Nat} (ha : CA ops val a0 k a) (hb : CA ops val a0 k b) : ∀ t ∈ looks ops k, a.tmps[t]? = b.tmps[t]? := by
  intro t ht
  by_cases h : ∃ j, dstAt ops j = some t ∧ j ∈ clos ops k
  · obtain ⟨j, h1, h2⟩ := h
    rw [(ha t ht).1 j h1 h2, (hb t ht).1 j h1 h2]
  · have : ∀ j, dstAt ops j = some t → j ∉ clos ops k := fun j h1 h2 => h ⟨j, h1, h2⟩
    rw [(ha t ht).2 this, (hb t ht).2 this]

theorem CA.val (D : DrawOk P n ops) {val val' : Nat → Value} {a0 b : Act} {k : Nat} (h : CA ops val a0 k b) (hv : ∀ j ∈ clos ops k, val' j = val j) : CA ops val' a0 k b := by
  intro t ht
  refine ⟨fun j hj hc => by rw [hv j hc]; exact (h t ht).1 j hj hc, (h t ht).2⟩

/-- Operation k yields v, seen from frame b over heap h. -/
def YA (P : Program) (ops : Array Oper) (k : Nat) (v : Value) (b : Act) (h : Heap) : Prop :=
  ∀ o, ops[k]? = some o → (Region.wanted o (yielded ops b.tmps) = true ∧ rd P (execOp b.eval o) h = some (.value v)) ∨ (Region.wanted o (yielded ops b.tmps) = false ∧ v = undef)

theorem eval_congr {a b : Act} {x : Operand} (h : ∀ t, x = .tmp t → a.tmps[t]? = b.tmps[t]?) : a.eval x = b.eval x := by
  cases x with
  | tmp t => simp [Act.eval, h t rfl]
  | _ => rfl

theorem exec_congr {a b : Act} {k : Nat} {o : Oper} (ho : ops[k]? = some o) (hsel : noSel o.op = true) (h : ∀ t ∈ looks ops k, a.tmps[t]? = b.tmps[t]?) : execOp a.eval o = execOp b.eval o := by
  refine execOp_congr o ?_ ?_
  · intro cs c e; rw [e] at hsel; simp [noSel] at hsel
  · intro x hx
    refine eval_congr fun t ht => h t ?_
    subst ht
    simp only [looks, ho, Oper.looksAt]
    exact List.mem_append_left _ (List.mem_filterMap.2 ⟨.tmp t, by simpa using hx, rfl⟩)

theorem wanted_congr {a b : Act} {k : Nat} {o : Oper} (ho : ops[k]? = some o) (h : ∀ t ∈ looks ops k, a.tmps[t]? = b.tmps[t]?) : Region.wanted o (yielded ops a.tmps) = Region.wanted o (yielded ops b.tmps) := by
  unfold Region.wanted
  cases hg : o.guard with
  | none => rfl
  | some gw =>
    obtain ⟨g, want⟩ := gw
    have : yielded ops a.tmps g = yielded ops b.tmps g := by
      unfold yielded
      cases ht : (ops[g]?).bind (·.dst) with
      | none => rfl
      | some t =>
        have := h t (by simp [looks, ho, Oper.looksAt, hg, ht])
        simp [this]
    simp only [this]

theorem YA.congr {k : Nat} {v : Value} {a b : Act} {h : Heap} (hsel : ∀ o, ops[k]? = some o → noSel o.op = true) (hl : ∀ t ∈ looks ops k, a.tmps[t]? = b.tmps[t]?) (H : YA P ops k v a h) : YA P ops k v b h := by
  intro o ho
  rw [← wanted_congr ho hl, ← exec_congr ho (hsel o ho) hl]
  exact H o ho

theorem YA.free {k : Nat} {v : Value} {b : Act} {h h' : Heap} (hf : freeAt ops k = true) (H : YA P ops k v b h) : YA P ops k v b h' := by
  intro o ho
  simp only [freeAt, ho] at hf
  rw [rd_noHeap _ (heapFree_spec hf _) h' h]
  exact H o ho

/-! ### The canonical order is down-closed -/

inductive OrdV (ops : Array Oper) : List Nat → Prop where
  | nil : OrdV ops []
  | snoc (V : List Nat) (i : Nat) : OrdV ops V → (∀ j ∈ depsOf ops i, j ∈ V) → OrdV ops (V ++ [i])

theorem OrdV.down {V : List Nat} (H : OrdV ops V) : ∀ i ∈ V, ∀ j ∈ depsOf ops i, j ∈ V := by
  induction H with
  | nil => intro i hi; cases hi
  | snoc V i _ hd ih =>
    intro k hk j hj
    rcases List.mem_append.1 hk with hk | hk
    · exact List.mem_append_left _ (ih k hk j hj)
    · simp at hk; subst hk; exact List.mem_append_left _ (hd j hj)

theorem OrdV.first {V : List Nat} (H : OrdV ops V) (p : Nat → Prop) (h : ∃ k ∈ V, ¬ p k) : ∃ k ∈ V, ¬ p k ∧ ∀ j ∈ depsOf ops k, p j := by
  induction H with
  | nil => obtain ⟨k, hk, _⟩ := h; cases hk
  | snoc V i _ hd ih =>
    by_cases hV : ∃ k ∈ V, ¬ p k
    · obtain ⟨k, h1, h2⟩ := ih hV
      exact ⟨k, List.mem_append_left _ h1, h2⟩
    · obtain ⟨k, hk, hp⟩ := h
      rcases List.mem_append.1 hk with hk | hk
      · exact absurd ⟨k, hk, hp⟩ hV
      · simp at hk; subst hk
        refine ⟨k, by simp, hp, fun j hj => ?_⟩
        exact Classical.byContradiction fun hpj => hV ⟨j, hd j hj, hpj⟩

theorem readyB_spec {V : List Nat} {i : Nat} : readyB ops V i = true ↔ i ∉ V ∧ ∀ j ∈ depsOf ops i, j ∈ V := by
  simp [readyB]

theorem mem_depsOf {i j : Nat} : j ∈ depsOf ops i ↔ ∃ o, ops[i]? = some o ∧ ∃ e ∈ o.after, Region.binds .any e = true ∧ e.on = j := by
  unfold depsOf
  cases ops[i]? with
  | none => simp
  | some o => simp [and_assoc]

theorem ready_spec {listed : Array Bool} (hl : listed.size = ops.size) {i : Nat} : i ∈ Region.ready .any ops listed ↔ i < ops.size ∧ listed.getD i false = false ∧ ∀ j ∈ depsOf ops i, listed.getD j false = true := by
  rw [mem_ready]
  constructor
  · rintro ⟨h1, o, ho, h2⟩
    have hi : i < ops.size := by
      rcases Nat.lt_or_ge i ops.size with h' | h'
      · exact h'
      · simp [Array.getElem?_eq_none h'] at ho
    refine ⟨hi, ?_, ?_⟩
    · have : i < listed.size := by omega
      simp [this] at h1 ⊢; exact h1
    · intro j hj
      obtain ⟨o', ho', e, he, hb, rfl⟩ := mem_depsOf.1 hj
      rw [ho] at ho'; cases ho'
      exact h2 e he hb
  · rintro ⟨hi, h1, h2⟩
    have hi' : i < listed.size := by omega
    refine ⟨?_, ops[i], by simp [hi], fun e he hb => h2 _ (mem_depsOf.2 ⟨ops[i], by simp [hi], e, he, hb, rfl⟩)⟩
    simp [hi'] at h1 ⊢; exact h1

end
end Go.Vc

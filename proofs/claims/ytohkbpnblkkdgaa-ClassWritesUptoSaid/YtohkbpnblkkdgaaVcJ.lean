/- Heaps: what is read, what is made, what is written. No condition. -/
import Derived.Test.YtohkbpnblkkdgaaVcI
import Derived.WalkKit
import Derived.Deep.AppendSrc
import Derived.Laws.IdiomStrings
import Derived.Laws.CopyRow
namespace Go.Vc
set_option linter.unusedSimpArgs false
set_option linter.unusedVariables false

/-! ### Cells -/
theorem cellAt_push_new {h : Heap} {cs : Array Value} {e : TypeId} {fz : Nat × Nat} {j : Nat} : cellAt (h.push (.cells cs e fz)) ⟨h.size, j, none⟩ = cs[j]? := by
  simp [cellAt]
theorem cellAt_push_old {h : Heap} {o : Obj} {b j : Nat} {sp : Option Nat} (hb : b < h.size) : cellAt (h.push o) ⟨b, j, sp⟩ = cellAt h ⟨b, j, sp⟩ := by
  simp [cellAt, Array.getElem?_push, show ¬ b = h.size by omega]
theorem cellAt_of {h : Heap} {b j : Nat} {cs : Array Value} {e : TypeId} {fz : Nat × Nat} (hb : h[b]? = some (.cells cs e fz)) : cellAt h ⟨b, j, none⟩ = cs[j]? := by
  simp [cellAt, hb]
theorem cellAt_lt {h : Heap} {b j : Nat} {sp : Option Nat} {v : Value} (hc : cellAt h ⟨b, j, sp⟩ = some v) : b < h.size := by
  rcases Nat.lt_or_ge b h.size with h' | h'
  · exact h'
  · simp [cellAt, Array.getElem?_eq_none h'] at hc
theorem cellAt_block {h h' : Heap} {b j : Nat} {sp : Option Nat} (hb : h'[b]? = h[b]?) : cellAt h' ⟨b, j, sp⟩ = cellAt h ⟨b, j, sp⟩ := by simp [cellAt, hb]
theorem frozenAt_block {h h' : Heap} {b j : Nat} {sp : Option Nat} (hb : h'[b]? = h[b]?) : frozenAt h' ⟨b, j, sp⟩ = frozenAt h ⟨b, j, sp⟩ := by simp [frozenAt, hb]

theorem rd_load {P : Program} {h : Heap} {a : Addr} : rd P (load a) h = cellAt h a := by
  unfold load; simp only [rd]
  cases cellAt h a <;> rfl

/-- All loads of a type look at one block alone. -/
theorem rd_loadCells_block {P : Program} {h h' : Heap} {b : Nat} (hb : h'[b]? = h[b]?) : ∀ (n : Nat) (o : Nat) (sp : Option Nat) (i : Nat) (acc : Array Value), rd P (loadCellsFrom ⟨b, o, sp⟩ i n acc) h' = rd P (loadCellsFrom ⟨b, o, sp⟩ i n acc) h := by
  intro n
  induction n with
  | zero => intro o sp i acc; rfl
  | succ n ih =>
    intro o sp i acc
    simp only [loadCellsFrom, rd_bind', rd_load]
    have : cellAt h' ((⟨b, o, sp⟩ : Addr).add i) = cellAt h ((⟨b, o, sp⟩ : Addr).add i) := by
      unfold Addr.add; split <;> exact cellAt_block hb
    rw [this]
    cases cellAt h ((⟨b, o, sp⟩ : Addr).add i) with
    | none => rfl
    | some v => exact ih o sp (i + 1) (acc.push v)
theorem rd_isAgg_any {P : Program} {t : TypeId} {h h' : Heap} : rd P (isAgg t) h' = rd P (isAgg t) h := rd_noHeap _ (noHeap_isAgg t) h' h
theorem rd_sizeOf_any {P : Program} {t : TypeId} {h h' : Heap} : rd P (sizeOf t) h' = rd P (sizeOf t) h := rd_noHeap _ (noHeap_sizeOf t) h' h
theorem ld_block {P : Program} {t : TypeId} {h h' : Heap} {b o : Nat} {sp : Option Nat} (hb : h'[b]? = h[b]?) : ld P t ⟨b, o, sp⟩ h' = ld P t ⟨b, o, sp⟩ h := by
  unfold ld loadVar
  rw [rd_bind', rd_bind', rd_isAgg_any]
  cases rd P (isAgg t) h with
  | none => rfl
  | some g =>
    simp only [Option.bind_some]
    split
    · rw [rd_bind', rd_bind', rd_sizeOf_any]
      cases rd P (sizeOf t) h with
      | none => rfl
      | some n => simp only [Option.bind_some, rd_bind', loadCells, rd_loadCells_block (P := P) hb n o sp 0 #[]]; rfl
    · rw [rd_load, rd_load, cellAt_block hb]
theorem ld_push_old {P : Program} {t : TypeId} {h : Heap} {ob : Obj} {b o : Nat} {sp : Option Nat} (hb : b < h.size) : ld P t ⟨b, o, sp⟩ (h.push ob) = ld P t ⟨b, o, sp⟩ h :=
  ld_block (by simp [Array.getElem?_push, show ¬ b = h.size by omega])

def cellT (P : Program) (t : TypeId) : Bool := match P.underlying t with
  | some (.struct _) | some (.array _ _) | none => false
  | _ => true
theorem ld_cell {P : Program} {t : TypeId} (ht : cellT P t = true) {h : Heap} {a : Addr} : ld P t a h = cellAt h a := by
  unfold cellT at ht
  unfold ld loadVar
  rw [rd_bind']
  cases hu : P.underlying t with
  | none => rw [hu] at ht; cases ht
  | some d =>
    rw [rd_isAgg hu]
    rw [hu] at ht
    cases d <;> first | (simp at ht; done) | exact rd_load

theorem rd_loadCells_some {P : Program} {h : Heap} {b o : Nat} : ∀ (n i : Nat) (acc : Array Value) (vs : List Value), vs.length = n → (∀ j v, vs[j]? = some v → cellAt h ⟨b, o + (i + j), none⟩ = some v) →
    rd P (loadCellsFrom ⟨b, o, none⟩ i n acc) h = some (acc ++ vs.toArray) := by
  intro n
  induction n with
  | zero => intro i acc vs hl hv; have : vs = [] := List.eq_nil_of_length_eq_zero hl; subst this; simp [loadCellsFrom, rd_pure]
  | succ n ih =>
    intro i acc vs hl hv
    cases vs with
    | nil => simp at hl
    | cons v vs =>
      simp only [loadCellsFrom, rd_bind', rd_load]
      have h0 := hv 0 v rfl
      have ha : (⟨b, o, none⟩ : Addr).add i = ⟨b, o + i, none⟩ := by unfold Addr.add; split <;> simp_all
      rw [ha]
      simp only [Nat.add_zero] at h0
      rw [h0, Option.bind_some, ih (i + 1) (acc.push v) vs (by simpa using hl) (fun j u hu => by have := hv (j + 1) u (by simpa using hu); rwa [show o + (i + 1 + j) = o + (i + (j + 1)) by omega])]
      simp

/-- Cells from a place on. -/
def Rd (h : Heap) (b o : Nat) (vs : List Value) : Prop := ∀ j v, vs[j]? = some v → cellAt h ⟨b, o + j, none⟩ = some v
theorem Rd.block {h h' : Heap} {b o : Nat} {vs : List Value} (H : Rd h b o vs) (hb : h'[b]? = h[b]?) : Rd h' b o vs := fun j v hv => by rw [cellAt_block hb]; exact H j v hv
theorem rd_loadCells {P : Program} {h : Heap} {b o n : Nat} {vs : List Value} (H : Rd h b o vs) (hl : vs.length = n) : rd P (loadCells ⟨b, o, none⟩ n) h = some vs.toArray := by
  unfold loadCells
  rw [rd_loadCells_some n 0 #[] vs hl (fun j v hv => by rw [Nat.zero_add]; exact H j v hv)]; simp

def aggT (P : Program) (t : TypeId) (n : Nat) : Bool := (match P.underlying t with
  | some (.struct _) | some (.array _ _) => true
  | _ => false) && (match P.info? t with
  | some i => i.size == n
  | none => false)
theorem ld_agg {P : Program} {t : TypeId} {n : Nat} (ht : aggT P t n = true) {h : Heap} {b o : Nat} {vs : List Value} (H : Rd h b o vs) (hl : vs.length = n) : ld P t ⟨b, o, none⟩ h = some (.agg vs.toArray) := by
  unfold aggT at ht
  rw [Bool.and_eq_true] at ht
  obtain ⟨h1, h2⟩ := ht
  cases hu : P.underlying t with
  | none => rw [hu] at h1; cases h1
  | some d =>
    cases hi : P.info? t with
    | none => rw [hi] at h2; cases h2
    | some i =>
      rw [hi] at h2
      have hsz : i.size = n := by simpa using h2
      unfold ld loadVar
      rw [rd_bind', rd_isAgg hu]
      rw [hu] at h1
      have fin : rd P (do let s ← sizeOf t; let c ← loadCells ⟨b, o, none⟩ s; pure (Value.agg c)) h = some (.agg vs.toArray) := by
        simp only [rd_bind', rd_sizeOf hi, Option.bind_some, hsz, rd_loadCells H hl, rd_pure]
      cases d <;> first | (simp at h1; done) | exact fin

/-! ### What has turned -/
structure Fr (S : Nat → Prop) (h h' : Heap) : Prop where
  size : h.size ≤ h'.size
  same : ∀ k, k < h.size → ¬ S k → h'[k]? = h[k]?
theorem Fr.refl (S : Nat → Prop) (h : Heap) : Fr S h h := ⟨Nat.le_refl _, fun _ _ _ => rfl⟩
theorem Fr.trans {S S' T : Nat → Prop} {a b c : Heap} (H : Fr S a b) (K : Fr S' b c) (h1 : ∀ k, k < a.size → S k → T k) (h2 : ∀ k, k < a.size → S' k → T k) : Fr T a c :=
  ⟨Nat.le_trans H.size K.size, fun k hk hT => (K.same k (Nat.lt_of_lt_of_le hk H.size) (fun h => hT (h2 k hk h))).trans (H.same k hk (fun h => hT (h1 k hk h)))⟩
theorem Fr.mono {S T : Nat → Prop} {a b : Heap} (H : Fr S a b) (h1 : ∀ k, k < a.size → S k → T k) : Fr T a b := ⟨H.size, fun k hk hT => H.same k hk fun h => hT (h1 k hk h)⟩
theorem Fr.push (S : Nat → Prop) (h : Heap) (o : Obj) : Fr S h (h.push o) := ⟨by simp, fun k hk _ => by simp [Array.getElem?_push, show ¬ k = h.size by omega]⟩
theorem Fr.set {S : Nat → Prop} (h : Heap) (a : Addr) (v : Value) (hS : a.block < h.size → S a.block) : Fr S h (setAt h a v) := by
  refine ⟨by simp [setAt], fun k hk hn => ?_⟩
  have : a.block ≠ k := fun e => hn (e ▸ hS (e ▸ hk))
  simp [setAt, Array.getElem?_modify, this]
abbrev Ext := Fr fun _ => False
theorem Fr.ld {S : Nat → Prop} {h h' : Heap} (H : Fr S h h') {P : Program} {t : TypeId} {b o : Nat} {sp : Option Nat} (hb : b < h.size) (hS : ¬ S b) : ld P t ⟨b, o, sp⟩ h' = ld P t ⟨b, o, sp⟩ h := ld_block (H.same b hb hS)
theorem Fr.cell {S : Nat → Prop} {h h' : Heap} (H : Fr S h h') {b o : Nat} {sp : Option Nat} (hb : b < h.size) (hS : ¬ S b) : cellAt h' ⟨b, o, sp⟩ = cellAt h ⟨b, o, sp⟩ := cellAt_block (H.same b hb hS)
theorem Fr.rd {S : Nat → Prop} {h h' : Heap} (H : Fr S h h') {b o : Nat} {vs : List Value} (hr : Rd h b o vs) (hb : b < h.size) (hS : ¬ S b) : Rd h' b o vs := hr.block (H.same b hb hS)
theorem Ext.ld {h h' : Heap} (H : Ext h h') {P : Program} {t : TypeId} {b o : Nat} {sp : Option Nat} (hb : b < h.size) : Go.Vc.ld P t ⟨b, o, sp⟩ h' = Go.Vc.ld P t ⟨b, o, sp⟩ h := Fr.ld H hb id
theorem Ext.trans {a b c : Heap} (H : Ext a b) (K : Ext b c) : Ext a c := Fr.trans H K (fun _ _ h => h) (fun _ _ h => h)
theorem Ext.refl (h : Heap) : Ext h h := Fr.refl _ h
theorem Ext.push (h : Heap) (o : Obj) : Ext h (h.push o) := Fr.push _ h o

theorem setAt_get {h : Heap} {b o : Nat} {cs : Array Value} {e : TypeId} {fz : Nat × Nat} (hb : h[b]? = some (.cells cs e fz)) (v : Value) : (setAt h ⟨b, o, none⟩ v)[b]? = some (.cells (cs.setIfInBounds o v) e fz) := by
  simp [setAt, Array.getElem?_modify, hb]
theorem setAt_ne {h : Heap} {a : Addr} {k : Nat} (hk : k ≠ a.block) (v : Value) : (setAt h a v)[k]? = h[k]? := by
  simp [setAt, Array.getElem?_modify, Ne.symm hk]
theorem setAt_size {h : Heap} {a : Addr} {v : Value} : (setAt h a v).size = h.size := by simp [setAt]

/-! ### Making -/
section
variable {P : Program} {τ ρ : Env} {h : Heap} {K : Value → Heap → Prop} {ty : TypeId}

theorem eff_1 {op : Op} {x : Operand} (ho : op.operands = #[x]) {v : Value} (hx : evo τ ρ x = some v)
    (H : ∀ e : Operand → Value, e x = v → sr P (execOp e (Sop.oper ⟨none, op, ty, none, false⟩)) h (fun nx h' => nextTo P K nx h')) : eff P op ty τ ρ h K :=
  ⟨by rw [known_1 ho]; simp [hx], H _ (by simp [evd, hx])⟩
theorem eff_2 {op : Op} {x y : Operand} (ho : op.operands = #[x, y]) {v u : Value} (hx : evo τ ρ x = some v) (hy : evo τ ρ y = some u)
    (H : ∀ e : Operand → Value, e x = v → e y = u → sr P (execOp e (Sop.oper ⟨none, op, ty, none, false⟩)) h (fun nx h' => nextTo P K nx h')) : eff P op ty τ ρ h K :=
  ⟨by rw [known_2 ho]; simp [hx, hy], H _ (by simp [evd, hx]) (by simp [evd, hy])⟩

theorem sr_of_run {α : Type} {s : Sem α} {h : Heap} {K : α → Heap → Prop} (H : ∀ w : World, w.heap = h → ∃ v w', s.run P w = .ok v w' ∧ Same w w' ∧ K v w'.heap) : sr P s h K := H
theorem sr_v {s : Sem Value} (H : sr P s h K) : sr P (do pure (Next.value (← s))) h (fun nx h' => nextTo P K nx h') := by
  intro w hw
  obtain ⟨v, w', h1, h2, h3⟩ := H w hw
  refine ⟨.value v, w', ?_, h2, h3⟩
  rw [Sem.run_bind, h1]; rfl
theorem sr_u {s : Sem Unit} (H : sr P s h (fun _ h' => K undef h')) : sr P (do s; pure Next.skip) h (fun nx h' => nextTo P K nx h') := by
  intro w hw
  obtain ⟨v, w', h1, h2, h3⟩ := H w hw
  refine ⟨.skip, w', ?_, h2, h3⟩
  rw [Sem.run_bind, h1]; rfl

def kbox (K : Value → Heap → Prop) (h : Heap) (e : TypeId) : Value → Prop := fun v => K (.pointer (some ⟨h.size, 0, none⟩)) (h.push (.cells v.cells e))
theorem kbox_ap {K : Value → Heap → Prop} {h : Heap} {e : TypeId} {v : Value} : kbox K h e v = K (.pointer (some ⟨h.size, 0, none⟩)) (h.push (.cells v.cells e)) := _root_.id rfl
theorem eff_box {e : TypeId} {x : Operand} (H : OptK (evo τ ρ x) (kbox K h e)) : eff P (.box e x) ty τ ρ h K := by
  cases hx : evo τ ρ x with
  | none => rw [hx] at H; exact H.elim
  | some v =>
    rw [hx] at H
    refine eff_1 rfl hx fun e' he => ?_
    simp only [execOp, Sop.oper, he]
    exact sr_v (sr_of_hr H)

theorem eff_alloc {e : TypeId} {i : TypeInfo} {z : Value} (hi : P.info? e = some i) (hz : i.zero = some z) (H : K (.pointer (some ⟨h.size, 0, none⟩)) (h.push (.cells z.cells e))) : eff P (.alloc e) ty τ ρ h K := by
  refine ⟨by intro x hx; simp [Op.operands] at hx, ?_⟩
  simp only [execOp, Sop.oper]
  refine sr_v fun w hw => ?_
  subst hw
  refine ⟨.pointer (some ⟨w.heap.size, 0, none⟩), { w with heap := w.heap.push (.cells z.cells e) }, ?_, ⟨rfl, rfl, rfl⟩, H⟩
  have hzv : (zeroValue e).run P w = .ok z w := by
    refine rd_run _ w z ?_
    unfold zeroValue; rw [rd_bind', rd_typeInfo hi]
    show rd P (match i.zero with | some v => pure v | none => _) w.heap = _
    rw [hz]; rfl
  simp only [Instr.alloc, Sem.run_bind, hzv, Result.andThen]
  rfl

/-! #### A slice of what is written out -/
theorem foldl_set (off : Nat) : ∀ (l : List Value) (k : Nat) (cells : Array Value) (pre mid post : List Value), cells.toList = pre ++ mid ++ post → pre.length = off + k → mid.length = l.length →
    (List.foldl (fun (cs : Array Value) (p : Value × Nat) => cs.setIfInBounds (off + p.2) p.1) cells (l.zipIdx k)).toList = pre ++ l ++ post := by
  intro l
  induction l with
  | nil =>
    intro k cells pre mid post h1 h2 h3
    have : mid = [] := List.eq_nil_of_length_eq_zero h3
    subst this; simpa using h1
  | cons v l ih =>
    intro k cells pre mid post h1 h2 h3
    cases mid with
    | nil => simp at h3
    | cons m mid =>
      rw [List.zipIdx_cons, List.foldl_cons, ih (k + 1) _ (pre ++ [v]) mid post ?_ (by simp; omega) (by simpa using h3)]
      · simp
      · rw [Array.toList_setIfInBounds, h1, ← h2]
        simp
/-- What 'fill' makes of parts that stand one behind the other, each of one size. -/
theorem fill_all (size : Nat) : ∀ (vs : List Value) (k : Nat) (cells : Array Value) (pre mid post : List Value), cells.toList = pre ++ mid ++ post → pre.length = k * size → mid.length = vs.length * size → (∀ v ∈ vs, v.cells.size = size) →
    ∃ out, Instr.fill (fun i => some (i * size, size)) cells ((vs.zipIdx k).map fun p => (p.2, p.1)) = some out ∧ out.toList = pre ++ vs.flatMap (fun v => v.cells.toList) ++ post := by
  intro vs
  induction vs with
  | nil =>
    intro k cells pre mid post h1 h2 h3 _
    have : mid = [] := List.eq_nil_of_length_eq_zero (by simpa using h3)
    subst this
    exact ⟨cells, rfl, by simpa using h1⟩
  | cons v vs ih =>
    intro k cells pre mid post h1 h2 h3 h4
    have hv := h4 v List.mem_cons_self
    have hlen : cells.size = pre.length + mid.length + post.length := by rw [← Array.length_toList, h1]; simp; omega
    have h3' : mid.length = size + vs.length * size := by rw [h3, List.length_cons, Nat.add_mul]; omega
    simp only [List.zipIdx_cons, List.map_cons, Instr.fill]
    rw [if_neg (by rw [hv]; simp; omega)]
    have hmid : cells.toList = pre ++ mid.take size ++ (mid.drop size ++ post) := by
      rw [h1, List.append_assoc pre (mid.take size), ← List.append_assoc (mid.take size), List.take_append_drop, List.append_assoc]
    have hset := foldl_set (k * size) v.cells.toList 0 cells pre (mid.take size) (mid.drop size ++ post) hmid (by omega) (by simp; omega)
    have hf : (v.cells.zipIdx.foldl (fun cs (c, j) => cs.setIfInBounds (k * size + j) c) cells).toList = pre ++ v.cells.toList ++ (mid.drop size ++ post) := by
      rw [← hset, ← Array.foldl_toList, Array.toList_zipIdx]
    obtain ⟨out, o1, o2⟩ := ih (k + 1) _ (pre ++ v.cells.toList) (mid.drop size) post (by rw [hf]; simp) (by simp [hv]; rw [h2, Nat.add_mul]; omega) (by simp; omega) (fun u hu => h4 u (List.mem_cons_of_mem _ hu))
    exact ⟨out, o1, by rw [o2]; simp⟩

def slT (P : Program) (t e : TypeId) (size bytes : Nat) : Bool := (match P.underlying t with
  | some (.slice e') => e' == e
  | _ => false) && (match P.info? e with
  | some i => i.size == size && i.bytes == bytes && (match i.zero with
    | some z => z.cells.size == size
    | none => false)
  | none => false) && decide (0 < size)
theorem slT_spec {t e : TypeId} {size bytes : Nat} (h : slT P t e size bytes = true) : ∃ i z, P.underlying t = some (.slice e) ∧ P.info? e = some i ∧ i.zero = some z ∧ i.size = size ∧ i.bytes = bytes ∧ z.cells.size = size ∧ 0 < size := by
  unfold slT at h
  simp only [Bool.and_eq_true, decide_eq_true_eq] at h
  obtain ⟨⟨h1, h2⟩, h3⟩ := h
  cases hu : P.underlying t with
  | none => rw [hu] at h1; cases h1
  | some d =>
    rw [hu] at h1
    cases d <;> simp only [Bool.false_eq_true] at h1
    rename_i e'
    have he : e' = e := by simpa using h1
    subst he
    cases hi : P.info? e' with
    | none => rw [hi] at h2; cases h2
    | some i =>
      rw [hi] at h2
      simp only [Bool.and_eq_true, beq_iff_eq] at h2
      cases hz : i.zero with
      | none => rw [hz] at h2; simp at h2
      | some z => rw [hz] at h2; exact ⟨i, z, rfl, rfl, hz, h2.1.1, h2.1.2, by simpa using h2.2, h3⟩

theorem idx_parts (xs : List Operand) (k : Nat) (e : Operand → Value) : ((xs.zipIdx k).map fun p => (p.2, p.1)).map (fun (p : Nat × Operand) => (p.1, e p.2)) = ((xs.map e).zipIdx k).map fun p => (p.2, p.1) := by
  induction xs generalizing k with
  | nil => rfl
  | cons x xs ih => simp only [List.zipIdx_cons, List.map_cons, ih]

/-- A slice whose elements are all written out. -/
theorem eff_lit {t e : TypeId} {size bytes : Nat} (hT : slT P t e size bytes = true) (xs : List Operand) {n : Nat} {parts : Array (Nat × Operand)} (hp : parts.toList = (xs.zipIdx 0).map fun p => (p.2, p.1)) (hn : xs.length = n) (hsm : n * size ≤ 16777216)
    {vs : List Value} (hv : evs τ ρ xs = some vs) (hc : ∀ v ∈ vs, v.cells.size = size)
    (H : K (.slice (some ⟨h.size, 0, none⟩) n n) (h.push (.cells (vs.flatMap (fun v => v.cells.toList)).toArray e))) : eff P (.buildSlice t n parts) ty τ ρ h K := by
  obtain ⟨i, z, t1, t2, t3, t4, t5, t6, t7⟩ := slT_spec hT
  obtain ⟨k1, k2⟩ := evs_some xs vs hv
  have hvl : vs.length = n := by rw [← k2]; simpa using hn
  refine ⟨?_, ?_⟩
  · intro x hx
    simp only [Op.operands, hp, List.map_map] at hx
    refine k1 x ?_
    have : ∀ (xs : List Operand) (k : Nat), List.map ((fun x : Nat × Operand => x.2) ∘ fun p : Operand × Nat => (p.2, p.1)) (xs.zipIdx k) = xs := by
      intro xs
      induction xs with
      | nil => intro k; rfl
      | cons y ys ih => intro k; simp only [List.zipIdx_cons, List.map_cons, ih]; rfl
    rw [this] at hx
    simpa using hx
  · simp only [execOp, Sop.oper]
    refine sr_v fun w hw => ?_
    subst hw
    refine ⟨.slice (some ⟨w.heap.size, 0, none⟩) n n, { w with heap := w.heap.push (.cells (vs.flatMap (fun v => v.cells.toList)).toArray e) }, ?_, ⟨rfl, rfl, rfl⟩, H⟩
    have hparts : (parts.map fun (i, x) => (i, evd τ ρ x)).toList = (vs.zipIdx 0).map fun p => (p.2, p.1) := by
      rw [Array.toList_map, hp, ← k2]
      exact idx_parts xs 0 (evd τ ρ)
    have hzv : ∀ w, (zeroValue e).run P w = .ok z w := by
      intro w
      refine rd_run _ w z ?_
      unfold zeroValue; rw [rd_bind', rd_typeInfo t2]
      show rd P (match i.zero with | some v => pure v | none => _) w.heap = _
      rw [t3]; rfl
    have hsz : ∀ w, (sizeOf e).run P w = .ok size w := fun w => rd_run _ w size (by rw [rd_sizeOf t2, t4])
    have hu : ∀ w, (underlying t).run P w = .ok (.slice e) w := fun w => rd_run _ w _ (rd_underlying t1)
    have hfill : ∀ cs : Array Value, cs.size = n * size → Instr.fill (fun i => some (i * size, size)) cs (parts.map fun (i, x) => (i, evd τ ρ x)).toList = some (vs.flatMap (fun v => v.cells.toList)).toArray := by
      intro cs hcs
      obtain ⟨out, o1, o2⟩ := fill_all size vs 0 cs [] cs.toList [] (by simp) (by simp) (by rw [Array.length_toList, hcs, hvl]) hc
      rw [hparts, o1]
      congr 1
      apply Array.toList_inj.1
      rw [o2]; simp
    simp only [Instr.buildSlice, Sem.run_bind, hu, hsz, Result.andThen, if_neg (show ¬ n * size > 2 ^ 24 by omega)]
    by_cases hz : n * size = 0
    · rw [if_pos hz]
      simp only [Sem.run_bind, Sem.run_pure, Result.andThen]
      rw [hfill _ (by simp)]
      rfl
    · rw [if_neg hz]
      simp only [Sem.run_bind, Sem.run_pure, Result.andThen, hzv]
      rw [hfill _ (by simp)]
      rfl

def all1 (size : Nat) : List Value → Prop
  | [] => True
  | v :: r => v.cells.size = size ∧ all1 size r
theorem all1_nil {size : Nat} : all1 size [] = True := _root_.id rfl
theorem all1_cons {size : Nat} {v : Value} {r : List Value} : all1 size (v :: r) = (v.cells.size = size ∧ all1 size r) := _root_.id rfl
theorem all1_mem {size : Nat} : ∀ {l : List Value}, all1 size l → ∀ v ∈ l, v.cells.size = size := by
  intro l
  induction l with
  | nil => intro _ v hv; cases hv
  | cons x r ih =>
    intro h v hv
    rcases List.mem_cons.1 hv with hv | hv
    · exact hv ▸ h.1
    · exact ih h.2 v hv
def flatC : List Value → List Value
  | [] => []
  | v :: r => v.cells.toList ++ flatC r
theorem flatC_nil : flatC [] = [] := _root_.id rfl
theorem flatC_cons {v : Value} {r : List Value} : flatC (v :: r) = v.cells.toList ++ flatC r := _root_.id rfl
theorem flatC_eq : ∀ l : List Value, flatC l = l.flatMap fun v => v.cells.toList := by
  intro l; induction l with
  | nil => rfl
  | cons x r ih => simp [flatC, ih]
def klit (K : Value → Heap → Prop) (h : Heap) (n size : Nat) (e : TypeId) : List Value → Prop := fun vs => all1 size vs ∧ K (.slice (some ⟨h.size, 0, none⟩) n n) (h.push (.cells (flatC vs).toArray e))
theorem klit_ap {n size : Nat} {e : TypeId} {vs : List Value} : klit K h n size e vs = (all1 size vs ∧ K (.slice (some ⟨h.size, 0, none⟩) n n) (h.push (.cells (flatC vs).toArray e))) := _root_.id rfl
theorem eff_lits {t e : TypeId} {size bytes : Nat} (hT : slT P t e size bytes = true) {n : Nat} {l : List (Nat × Operand)} (hp : l = ((l.map (·.2)).zipIdx 0).map fun p => (p.2, p.1)) (hn : l.length = n) (hsm : n * size ≤ 16777216)
    (H : OptK (evs τ ρ (l.map (·.2))) (klit K h n size e)) : eff P (.buildSlice t n l.toArray) ty τ ρ h K := by
  cases hv : evs τ ρ (l.map (·.2)) with
  | none => rw [hv] at H; exact H.elim
  | some vs =>
    rw [hv] at H
    exact eff_lit hT (l.map (·.2)) (parts := l.toArray) (by simpa using hp) (by simpa using hn) hsm hv (all1_mem H.1) (by rw [← flatC_eq]; exact H.2)

/-! #### A slice that is the call's own, and append -/
def Own (h : Heap) (base : Nat) (e : TypeId) (size : Nat) (v : Value) (n : Nat) (xs : List Value) : Prop :=
  xs.length = n * size ∧
  ((v = .slice none 0 0 ∧ n = 0) ∨
   ∃ g cap cur fz, v = .slice (some ⟨g, 0, none⟩) n cap ∧ base ≤ g ∧ h[g]? = some (.cells cur e fz) ∧ (∀ j, j < cap * size → ¬ (fz.1 ≤ j ∧ j < fz.2)) ∧ n ≤ cap ∧ cap ≤ maxLen ∧ cur.size = cap * size ∧ cur.toList.take (n * size) = xs)
theorem Own.nil {h : Heap} {base : Nat} {e : TypeId} {size : Nat} : Own h base e size (.slice none 0 0) 0 [] := ⟨by simp, .inl ⟨rfl, rfl⟩⟩
theorem Own.fr {S : Nat → Prop} {h h' : Heap} {base : Nat} {e : TypeId} {size : Nat} {v : Value} {n : Nat} {xs : List Value} (H : Own h base e size v n xs) (hf : Fr S h h') (hS : ∀ k, v.ownBlock = some k → ¬ S k) : Own h' base e size v n xs := by
  refine ⟨H.1, ?_⟩
  rcases H.2 with h1 | ⟨g, cap, cur, fz, rfl, h2, h3, h4⟩
  · exact .inl h1
  · refine .inr ⟨g, cap, cur, fz, rfl, h2, ?_, h4⟩
    rw [hf.same g (Array.getElem?_eq_some_iff.1 h3).1 (hS g rfl)]; exact h3
theorem Own.push {h : Heap} {base : Nat} {e : TypeId} {size : Nat} {v : Value} {n : Nat} {xs : List Value} (H : Own h base e size v n xs) (o : Obj) : Own (h.push o) base e size v n xs :=
  H.fr (Fr.push (fun _ => False) h o) fun _ _ => _root_.id
theorem Own.ext {h h' : Heap} {base : Nat} {e : TypeId} {size : Nat} {v : Value} {n : Nat} {xs : List Value} (H : Own h base e size v n xs) (hf : Ext h h') : Own h' base e size v n xs := H.fr hf fun _ _ => _root_.id
theorem Own.lt {h : Heap} {base : Nat} {e : TypeId} {size : Nat} {v : Value} {n : Nat} {xs : List Value} (H : Own h base e size v n xs) : ∀ k, v.ownBlock = some k → base ≤ k ∧ k < h.size := by
  intro k hk
  rcases H.2 with ⟨rfl, _⟩ | ⟨g, cap, cur, fz, rfl, h2, h3, h4⟩
  · simp [Value.ownBlock] at hk
  · simp [Value.ownBlock] at hk; subst hk; exact ⟨h2, (Array.getElem?_eq_some_iff.1 h3).1⟩

theorem Own.mono {h : Heap} {base base' : Nat} {e : TypeId} {size : Nat} {v : Value} {n : Nat} {xs : List Value} (H : Own h base e size v n xs) (hb : base' ≤ base) : Own h base' e size v n xs := by
  refine ⟨H.1, ?_⟩
  rcases H.2 with h1 | ⟨g, cap, cur, fz, rfl, h2, h3⟩
  · exact .inl h1
  · exact .inr ⟨g, cap, cur, fz, rfl, by omega, h3⟩
/-- Behind an append to a slice that is younger than all that is to stay. -/
theorem Ext.app {b hc h' : Heap} {v : Value} (H : Ext b hc) (hf : Fr (fun k => v.ownBlock = some k) hc h') (hlt : ∀ k, v.ownBlock = some k → b.size ≤ k) : Ext b h' :=
  Fr.trans H hf (fun _ _ h => h) fun k hk h => absurd (hlt k h) (by omega)
theorem grown_fr {w w' : World} {row : Option Nat} (h : w.grownBy w' row) : Fr (fun k => row = some k) w.heap w'.heap := ⟨h.size, fun k hk hn => h.block k hk fun e => hn e.symm⟩

theorem setCells_row (g : Nat) (e : TypeId) (fz : Nat × Nat) : ∀ (vs : List Value) (o : Nat) (cur : Array Value) (w : World), w.heap[g]? = some (.cells cur e fz) → o + vs.length ≤ cur.size →
    w.setCells g o vs = w.setRow g (cur.toList.take o ++ vs ++ cur.toList.drop (o + vs.length)).toArray
  | [], o, cur, w, hg, _ => by
    simp only [World.setCells, List.append_nil, List.length_nil, Nat.add_zero, List.take_append_drop, Array.toArray_toList]
    rw [setRow_self w g cur e fz hg]
  | v :: rest, o, cur, w, hg, hl => by
    have ih := setCells_row g e fz rest (o + 1) (cur.setIfInBounds o v) (w.setRow g (cur.setIfInBounds o v)) (setRow_heap w g cur _ e _ hg) (by simp at hl ⊢; omega)
    rw [World.setCells, setCell_eq_setRow w g o cur e fz v hg, ih, setRow_setRow]
    congr 2
    have e := list_seg_step cur.toList o v rest (by simp at hl ⊢; omega)
    simpa [Array.toList_setIfInBounds, Nat.add_assoc] using e

theorem run_append_src {P : Program} (w : World) (base : Nat) (t tx ty e : TypeId) (i : TypeInfo) (z : Value) (size bytes : Nat) (ht : P.underlying t = some (.slice e)) (hi : P.info? e = some i) (hz : i.zero = some z)
    (hsize : i.size = size) (hby : i.bytes = bytes) (hzs : z.cells.size = size) (v : Value) (n m : Nat) (xs news : List Value) (x : Value) (hown : Own w.heap base e size v n xs) (hs : Src P size tx x m news w)
    (h63 : n + m ≤ maxLen) (hbytes : (n + m) * bytes ≤ 140737488355328) (hbase : base ≤ w.heap.size) :
    ∃ v' w', (Builtin.append_ #[t, tx] ty #[v, x]).run P w = .ok v' w' ∧ Own w'.heap base e size v' (n + m) (xs ++ news) ∧ w.grownBy w' v.ownBlock ∧ (v' = .slice none 0 0 ↔ v = .slice none 0 0 ∧ m = 0) ∧ ∀ k, v'.ownBlock = some k → v.ownBlock = some k ∨ w.heap.size ≤ k := by
  subst hsize hby
  have hlen : (xs ++ news).length = (n + m) * i.size := by rw [List.length_append, hown.1, hs.newsLen, Nat.add_mul]
  have hsmall : ((n + m : Nat) : Int) ≤ 9223372036854775807 := by simp only [maxLen] at h63; omega
  have grow : ∀ (bo : Option Addr) (cap : Nat), v = .slice bo n cap → cap < n + m → (Builtin.firstCells i.size n (.slice bo n cap)).run P w.drew = .ok xs.toArray w.drew →
      ∃ v' w', (Builtin.append_ #[t, tx] ty #[v, x]).run P w = .ok v' w' ∧ Own w'.heap base e i.size v' (n + m) (xs ++ news) ∧ w.grownBy w' v.ownBlock ∧ (v' = .slice none 0 0 ↔ v = .slice none 0 0 ∧ m = 0) ∧ ∀ k, v'.ownBlock = some k → v.ownBlock = some k ∨ w.heap.size ≤ k := by
    intro bo cap hv hcap hold
    subst hv
    have hr := run_append_grow_src (P := P) w t tx ty e i z ht hi hz bo n cap xs hold x m news hs hcap hsmall (growslice_fits hcap hbytes)
    have hge := grownCap_ge w (n + m) cap e
    have hcm2 : grownCap w (n + m) cap e ≤ maxLen := grownCap_le_maxLen w (n + m) cap e h63
    refine ⟨_, _, hr, ⟨hlen, .inr ⟨w.heap.size, _, _, (0, 0), rfl, hbase, heap_alloc_new w.drew _, by intro j _; simp, hge, hcm2, ?_, ?_⟩⟩, ⟨rfl, rfl, rfl, by simp, fun k hk _ => by show (w.heap.push _)[k]? = _; rw [Array.getElem?_push, if_neg (by omega)]⟩, ?_, fun k hk => .inr (by simp only [Value.ownBlock, Option.some.injEq] at hk; omega)⟩
    · rw [Array.size_append, size_zeroCells, hzs, List.size_toArray, hlen, ← Nat.add_mul]
      congr 1; omega
    · simp only [Array.toList_append, List.append_assoc]
      rw [← List.append_assoc, ← hlen]
      exact List.take_left
    · constructor
      · intro h; cases h
      · rintro ⟨h1, h2⟩; cases h1; subst h2; simp at hcap
  rcases hown.2 with ⟨rfl, rfl⟩ | ⟨g, cap, cur, fz, rfl, hbg, hg, hfz, hnc, hcm, hcs, htake⟩
  · rcases Nat.eq_zero_or_pos m with rfl | hm
    · refine ⟨.slice none 0 0, w, ?_, ⟨hlen, .inl ⟨rfl, rfl⟩⟩, ⟨rfl, rfl, rfl, Nat.le_refl _, fun _ _ _ => rfl⟩, by simp, fun k hk => .inl hk⟩
      rcases hs.kind with ⟨e', hk⟩ | hk <;> simp [Builtin.append_, run_underlying ht, run_underlying hk, sizeOf, typeInfo, hi, hs.len, hs.cells]
    · have hxs : xs = [] := List.eq_nil_of_length_eq_zero (by simpa using hown.1)
      subst hxs
      exact grow none 0 rfl (by omega) (run_firstCells_none w.drew i.size 0 0 0)
  · by_cases hroom : n + m ≤ cap
    · have hnl := hs.newsLen
      have hmul : (n + m) * i.size ≤ cap * i.size := Nat.mul_le_mul_right _ hroom
      rw [Nat.add_mul] at hmul
      have hr := run_append_room_src (P := P) w t tx ty e i ht hi g 0 n cap x m news hs hroom
        (fun j hj => by simp [World.cell?, hg]; omega)
        (fun j hj => by
          have := hfz (0 + n * i.size + j) (by omega)
          simp only [World.frozen?, hg, Bool.and_eq_false_iff, decide_eq_false_iff_not]
          omega)
      rw [setCells_row g e fz news _ cur w hg (by omega)] at hr
      refine ⟨_, _, hr, ⟨hlen, .inr ⟨g, cap, _, fz, rfl, hbg, setRow_heap w g cur _ e _ hg, hfz, hroom, hcm, ?_, ?_⟩⟩, ⟨rfl, rfl, rfl, by simp, fun k _ hk => setRow_other w g k _ (fun e => hk (by simp [Value.ownBlock, e]))⟩, by simp, fun k hk => .inl hk⟩
      · simp only [List.size_toArray, List.length_append, List.length_take, List.length_drop, Array.length_toList]
        omega
      · have ht' : cur.toList.take (0 + n * i.size) = xs := by simpa using htake
        rw [ht', ← hlen]
        exact List.take_left
    · exact grow _ cap rfl (by omega) (run_firstCells_some w.drew i.size n ⟨g, 0, none⟩ n cap xs hown.1 (by
        intro j u hu
        have hadd : (⟨g, 0, none⟩ : Addr).add j = ⟨g, j, none⟩ := by unfold Addr.add; split <;> simp_all
        rw [hadd]
        show cellAt w.heap ⟨g, j, none⟩ = _
        rw [cellAt_of hg]
        rw [← htake, List.getElem?_take] at hu
        split at hu
        · simpa using hu
        · cases hu))

theorem eff_append_srcF {t tx e : TypeId} {size bytes : Nat} (hT : slT P t e size bytes = true) {x y : Operand} {base : Nat} {v u : Value} {n m : Nat} {xs news : List Value}
    (hx : evo τ ρ x = some v) (hy : evo τ ρ y = some u) (hown : Own h base e size v n xs) (hsrc : ∀ w : World, w.heap = h → Src P size tx u m news w)
    (h63 : n + m ≤ 9223372036854775807) (hbytes : (n + m) * bytes ≤ 140737488355328) (hbase : base ≤ h.size)
    (H : ∀ v' h', Own h' base e size v' (n + m) (xs ++ news) → Fr (fun k => v.ownBlock = some k) h h' → (v' = .slice none 0 0 ↔ v = .slice none 0 0 ∧ m = 0) → (∀ k, v'.ownBlock = some k → v.ownBlock = some k ∨ h.size ≤ k) → K v' h') :
    eff P (.call { callee := .builtin .append, args := #[x, y], argTypes := #[t, tx] }) ty τ ρ h K := by
  obtain ⟨i, z, t1, t2, t3, t4, t5, t6, t7⟩ := slT_spec hT
  refine eff_2 (x := x) (y := y) (by rfl) hx hy fun f hf1 hf2 => ?_
  intro w hw
  have hs := hsrc w hw
  subst hw
  obtain ⟨v', w', r1, r2, r3, r4, r5⟩ := run_append_src (P := P) w base t tx ty e i z size bytes t1 t2 t3 t4 t5 t6 v n m xs news u hown hs (by simpa [maxLen] using h63) hbytes hbase
  refine ⟨.value v', w', ?_, ⟨r3.os, r3.tape, r3.output⟩, H v' w'.heap r2 (grown_fr r3) r4 r5⟩
  simp only [execOp, Sop.oper, resolve, invoke, builtin, Sem.run_bind, Sem.run_pure, Result.andThen, List.map_toArray, List.map_cons, List.map_nil, hf1, hf2, r1]

theorem eff_append_src {t tx e : TypeId} {size bytes : Nat} (hT : slT P t e size bytes = true) {x y : Operand} {base : Nat} {v u : Value} {n m : Nat} {xs news : List Value}
    (hx : evo τ ρ x = some v) (hy : evo τ ρ y = some u) (hown : Own h base e size v n xs) (hsrc : ∀ w : World, w.heap = h → Src P size tx u m news w)
    (h63 : n + m ≤ 9223372036854775807) (hbytes : (n + m) * bytes ≤ 140737488355328) (hbase : base ≤ h.size)
    (H : ∀ v' h', Own h' base e size v' (n + m) (xs ++ news) → Fr (fun k => v.ownBlock = some k) h h' → (v' = .slice none 0 0 ↔ v = .slice none 0 0 ∧ m = 0) → K v' h') :
    eff P (.call { callee := .builtin .append, args := #[x, y], argTypes := #[t, tx] }) ty τ ρ h K :=
  eff_append_srcF hT hx hy hown hsrc h63 hbytes hbase fun v' h' a b c _ => H v' h' a b c

theorem eff_append_own {t e : TypeId} {size bytes : Nat} (hT : slT P t e size bytes = true) {x y : Operand} {base : Nat} {v : Value} {n m c : Nat} {xs news : List Value} {b o : Nat}
    (hx : evo τ ρ x = some v) (hy : evo τ ρ y = some (.slice (some ⟨b, o, none⟩) m c)) (hown : Own h base e size v n xs) (hl : news.length = m * size) (hnews : Rd h b o news) (h1 : ∀ u ∈ news, oneCell u = true)
    (h63 : n + m ≤ 9223372036854775807) (hbytes : (n + m) * bytes ≤ 140737488355328) (hbase : base ≤ h.size)
    (H : ∀ v' h', Own h' base e size v' (n + m) (xs ++ news) → Fr (fun k => v.ownBlock = some k) h h' → (v' = .slice none 0 0 ↔ v = .slice none 0 0 ∧ m = 0) → K v' h') :
    eff P (.call { callee := .builtin .append, args := #[x, y], argTypes := #[t, t] }) ty τ ρ h K := by
  obtain ⟨i, z, t1, t2, t3, t4, t5, t6, t7⟩ := slT_spec hT
  refine eff_append_src hT hx hy hown (fun w hw => ?_) h63 hbytes hbase H
  subst hw
  refine Src.ofSlice w t1 ⟨b, o, none⟩ m c news hl (fun j u hu => ?_) fun u hu => by have := h1 u hu; cases u <;> first | rfl | (simp [oneCell] at this)
  have ha : (⟨b, o, none⟩ : Addr).add j = ⟨b, o + j, none⟩ := by unfold Addr.add; split <;> simp_all
  rw [ha]; exact hnews j u hu
theorem eff_append_ownF {t e : TypeId} {size bytes : Nat} (hT : slT P t e size bytes = true) {x y : Operand} {base : Nat} {v : Value} {n m c : Nat} {xs news : List Value} {b o : Nat}
    (hx : evo τ ρ x = some v) (hy : evo τ ρ y = some (.slice (some ⟨b, o, none⟩) m c)) (hown : Own h base e size v n xs) (hl : news.length = m * size) (hnews : Rd h b o news) (h1 : ∀ u ∈ news, oneCell u = true)
    (h63 : n + m ≤ 9223372036854775807) (hbytes : (n + m) * bytes ≤ 140737488355328) (hbase : base ≤ h.size)
    (H : ∀ v' h', Own h' base e size v' (n + m) (xs ++ news) → Fr (fun k => v.ownBlock = some k) h h' → (v' = .slice none 0 0 ↔ v = .slice none 0 0 ∧ m = 0) → (∀ k, v'.ownBlock = some k → v.ownBlock = some k ∨ h.size ≤ k) → K v' h') :
    eff P (.call { callee := .builtin .append, args := #[x, y], argTypes := #[t, t] }) ty τ ρ h K := by
  obtain ⟨i, z, t1, t2, t3, t4, t5, t6, t7⟩ := slT_spec hT
  refine eff_append_srcF hT hx hy hown (fun w hw => ?_) h63 hbytes hbase H
  subst hw
  refine Src.ofSlice w t1 ⟨b, o, none⟩ m c news hl (fun j u hu => ?_) fun u hu => by have := h1 u hu; cases u <;> first | rfl | (simp [oneCell] at this)
  have ha : (⟨b, o, none⟩ : Addr).add j = ⟨b, o + j, none⟩ := by unfold Addr.add; split <;> simp_all
  rw [ha]; exact hnews j u hu

/-! #### Bytes as a text -/
def bytesV (l : List UInt8) : List Value := l.map fun c => .int .u8 (c.toNat : Int)
theorem eff_append_str {t tx e : TypeId} {bytes : Nat} (hT : slT P t e 1 bytes = true) (hX : P.underlying tx = some .string) {x y : Operand} {base : Nat} {v : Value} {n : Nat} {xs : List Value} {l : List UInt8}
    (hx : evo τ ρ x = some v) (hy : evo τ ρ y = some (str l)) (hown : Own h base e 1 v n xs)
    (h63 : n + l.length ≤ 9223372036854775807) (hbytes : (n + l.length) * bytes ≤ 140737488355328) (hbase : base ≤ h.size)
    (H : ∀ v' h', Own h' base e 1 v' (n + l.length) (xs ++ bytesV l) → Fr (fun k => v.ownBlock = some k) h h' → K v' h') :
    eff P (.call { callee := .builtin .append, args := #[x, y], argTypes := #[t, tx] }) ty τ ρ h K :=
  eff_append_src hT hx hy hown (fun w _ => Src.ofString w hX ⟨l.toArray⟩) h63 hbytes hbase fun v' h' a b _ => H v' h' a b
/-- '[]byte(s)'. -/
theorem eff_bytes_of {s d e : TypeId} (hs : P.underlying s = some .string) (hd : P.underlying d = some (.slice e)) (he : P.underlying e = some (.int .u8)) {x : Operand} {l : List UInt8} {base : Nat} (hx : evo τ ρ x = some (str l)) (hb : base ≤ h.size) (hl : l.length ≤ 9223372036854775807)
    (H : ∀ v h', Own h' base e 1 v l.length (bytesV l) → Ext h h' → K v h') : eff P (.convert s d x) ty τ ρ h K := by
  refine eff_1 (by rfl) hx fun f hf => ?_
  simp only [execOp, Sop.oper, hf]
  refine sr_v fun w hw => ?_
  subst hw
  have hr := run_bytes_of_string (P := P) w s d e ⟨l.toArray⟩ hs hd he
  have hz : (⟨l.toArray⟩ : ByteArray).size = l.length := by show l.toArray.size = _; simp
  rw [hz] at hr
  refine ⟨_, _, hr, ⟨rfl, rfl, rfl⟩, H _ _ ⟨by simp [bytesV], .inr ⟨w.heap.size, _, _, _, rfl, hb, heap_alloc_new w.drew _, ?_, grownCap_ge _ _ _ _, grownCap_le_maxLen _ _ _ _ (by simpa [maxLen] using hl), ?_, ?_⟩⟩ (Ext.push _ _)⟩
  · intro j hj hc
    have hge := grownCap_ge w l.length 0 e
    have : (bytesRow ⟨l.toArray⟩ (grownCap w l.length 0 e)).size = grownCap w l.length 0 e := by simp [bytesRow, hz]; omega
    rw [this] at hc
    have := hc.1
    simp only at this
    omega
  · have hge := grownCap_ge w l.length 0 e
    simp [bytesRow, hz]; omega
  · simp only [bytesRow, Array.toList_append, Array.toList_map, Nat.mul_one]
    exact List.take_left' (by simp)

theorem rd_forIn_bytes (f : Value → ByteArray → Sem (ForInStep ByteArray)) (hf : ∀ (c : UInt8) (r : ByteArray), rd P (f (.int .u8 (c.toNat : Int)) r) h = some (.yield (r.push c))) :
    ∀ (l : List UInt8) (s : ByteArray), rd P (forIn (bytesV l) s f) h = some ⟨(s.data.toList ++ l).toArray⟩ := by
  intro l
  induction l with
  | nil => intro s; simp [bytesV, rd_pure]
  | cons c l ih =>
    intro s
    have := ih (s.push c)
    simp only [bytesV, List.map_cons, List.forIn_cons, rd_bind', hf, Option.bind_some] at this ⊢
    rw [this]
    simp [ByteArray.push]
theorem cv_bytes {s d e : TypeId} {b o n c : Nat} {l : List UInt8} (hs : P.underlying s = some (.slice e)) (he : P.underlying e = some (.int .u8)) (hd : P.underlying d = some .string) (H : Rd h b o (bytesV l)) (hl : l.length = n) :
    cvE P s d (.slice (some ⟨b, o, none⟩) n c) h = some (str l) := by
  unfold cvE convert
  rw [rd_bind', rd_underlying hs, Option.bind_some, rd_bind', rd_underlying hd, Option.bind_some]
  simp only [rd_bind', rd_underlying he, Option.bind_some, Conv.bytesToString]
  rw [rd_loadCells H (by simpa [bytesV] using hl), Option.bind_some, List.forIn_toArray]
  rw [rd_forIn_bytes _ (by intro c r; simp [rd_pure])]
  simp only [Option.bind_some, rd_pure, str]
  rfl
theorem cv_bytes_nil {s d e : TypeId} {c n : Nat} (hs : P.underlying s = some (.slice e)) (he : P.underlying e = some (.int .u8)) (hd : P.underlying d = some .string) :
    cvE P s d (.slice none n c) h = some (str []) := by
  unfold cvE convert
  rw [rd_bind', rd_underlying hs, Option.bind_some, rd_bind', rd_underlying hd, Option.bind_some]
  simp only [rd_bind', rd_underlying he, Option.bind_some, Conv.bytesToString, rd_pure]
  rfl

theorem rd_forIn_ints (f : Value → ByteArray → Sem (ForInStep ByteArray)) (hf : ∀ (n : Int) (r : ByteArray), rd P (f (.int .u8 n) r) h = some (.yield (r.push (UInt8.ofNat n.toNat)))) :
    ∀ (l : List Int) (s : ByteArray), rd P (forIn (l.map (Value.int .u8)) s f) h = some ⟨(s.data.toList ++ l.map fun n => UInt8.ofNat n.toNat).toArray⟩ := by
  intro l
  induction l with
  | nil => intro s; simp [rd_pure]
  | cons c l ih =>
    intro s
    have := ih (s.push (UInt8.ofNat c.toNat))
    simp only [List.map_cons, List.forIn_cons, rd_bind', hf, Option.bind_some] at this ⊢
    rw [this]
    simp [ByteArray.push]
theorem cv_ints {s d e : TypeId} {b o n c : Nat} {l : List Int} (hs : P.underlying s = some (.slice e)) (he : P.underlying e = some (.int .u8)) (hd : P.underlying d = some .string) (H : Rd h b o (l.map (Value.int .u8))) (hl : l.length = n) :
    cvE P s d (.slice (some ⟨b, o, none⟩) n c) h = some (str (l.map fun n => UInt8.ofNat n.toNat)) := by
  unfold cvE convert
  rw [rd_bind', rd_underlying hs, Option.bind_some, rd_bind', rd_underlying hd, Option.bind_some]
  simp only [rd_bind', rd_underlying he, Option.bind_some, Conv.bytesToString]
  rw [rd_loadCells H (by simpa using hl), Option.bind_some, List.forIn_toArray]
  rw [rd_forIn_ints _ (by intro c r; simp [rd_pure])]
  simp only [Option.bind_some, rd_pure, str]
  rfl
theorem Rd_new {vs : List Value} {e : TypeId} {fz : Nat × Nat} : Rd (h.push (.cells vs.toArray e fz)) h.size 0 vs := by
  intro j v hv
  rw [Nat.zero_add, cellAt_push_new]; simpa using hv
theorem cv_lit1 {s d e : TypeId} {c : Nat} {a : Int} {e' : TypeId} {fz : Nat × Nat} (hs : P.underlying s = some (.slice e)) (he : P.underlying e = some (.int .u8)) (hd : P.underlying d = some .string) :
    cvE P s d (.slice (some ⟨h.size, 0, none⟩) 1 c) (h.push (.cells #[.int .u8 a] e' fz)) = some (str [UInt8.ofNat a.toNat]) :=
  cv_ints (l := [a]) hs he hd (Rd_new (vs := [.int .u8 a])) rfl
theorem cv_lit2 {s d e : TypeId} {c : Nat} {a b : Int} {e' : TypeId} {fz : Nat × Nat} (hs : P.underlying s = some (.slice e)) (he : P.underlying e = some (.int .u8)) (hd : P.underlying d = some .string) :
    cvE P s d (.slice (some ⟨h.size, 0, none⟩) 2 c) (h.push (.cells #[.int .u8 a, .int .u8 b] e' fz)) = some (str [UInt8.ofNat a.toNat, UInt8.ofNat b.toNat]) :=
  cv_ints (l := [a, b]) hs he hd (Rd_new (vs := [.int .u8 a, .int .u8 b])) rfl
theorem cv_lit3 {s d e : TypeId} {c' : Nat} {a b c : Int} {e' : TypeId} {fz : Nat × Nat} (hs : P.underlying s = some (.slice e)) (he : P.underlying e = some (.int .u8)) (hd : P.underlying d = some .string) :
    cvE P s d (.slice (some ⟨h.size, 0, none⟩) 3 c') (h.push (.cells #[.int .u8 a, .int .u8 b, .int .u8 c] e' fz)) = some (str [UInt8.ofNat a.toNat, UInt8.ofNat b.toNat, UInt8.ofNat c.toNat]) :=
  cv_ints (l := [a, b, c]) hs he hd (Rd_new (vs := [.int .u8 a, .int .u8 b, .int .u8 c])) rfl

theorem Own.rd {base : Nat} {e : TypeId} {size : Nat} {v : Value} {n : Nat} {xs : List Value} (H : Own h base e size v n xs) : (v = .slice none 0 0 ∧ n = 0 ∧ xs = []) ∨ ∃ g cap, v = .slice (some ⟨g, 0, none⟩) n cap ∧ base ≤ g ∧ Rd h g 0 xs := by
  obtain ⟨h1, h2⟩ := H
  rcases h2 with ⟨rfl, rfl⟩ | ⟨g, cap, cur, fz, rfl, h3, h4, _, h5, h6, h7, h8⟩
  · exact .inl ⟨rfl, rfl, List.eq_nil_of_length_eq_zero (by simpa using h1)⟩
  · refine .inr ⟨g, cap, rfl, h3, ?_⟩
    intro j v hv
    rw [cellAt_of h4, Nat.zero_add]
    rw [← h8, List.getElem?_take] at hv
    split at hv
    · simpa using hv
    · cases hv
theorem cv_own {s d e : TypeId} {base : Nat} {e' : TypeId} {v : Value} {n : Nat} {l : List UInt8} (hs : P.underlying s = some (.slice e)) (he : P.underlying e = some (.int .u8)) (hd : P.underlying d = some .string) (H : Own h base e' 1 v n (bytesV l)) :
    cvE P s d v h = some (str l) := by
  have hl : l.length = n := by have := H.1; simpa [bytesV] using this
  rcases H.rd with ⟨rfl, _, h3⟩ | ⟨g, cap, rfl, _, h3⟩
  · have : l = [] := by simpa [bytesV] using h3
    subst this
    exact cv_bytes_nil hs he hd
  · exact cv_bytes hs he hd h3 hl

/-! #### A slice that is read (elements of one cell) -/
def Sl (h : Heap) (v : Value) (xs : List Value) : Prop := ∃ a c, v = .slice a xs.length c ∧ (xs = [] ∨ ∃ b o, a = some ⟨b, o, none⟩ ∧ Rd h b o xs)
theorem Own.sl {base : Nat} {e : TypeId} {v : Value} {n : Nat} {xs : List Value} (H : Own h base e 1 v n xs) : Sl h v xs := by
  have hl := H.1
  rcases H.rd with ⟨rfl, _, rfl⟩ | ⟨g, cap, rfl, _, h3⟩
  · exact ⟨none, 0, rfl, .inl rfl⟩
  · exact ⟨some ⟨g, 0, none⟩, cap, by rw [hl]; simp, .inr ⟨g, 0, rfl, h3⟩⟩
theorem Rd.lt {b o : Nat} {xs : List Value} (H : Rd h b o xs) (hne : xs ≠ []) : b < h.size := by
  cases xs with
  | nil => exact absurd rfl hne
  | cons x r => exact cellAt_lt (H 0 x rfl)
theorem Sl.fr {S : Nat → Prop} {h' : Heap} {v : Value} {xs : List Value} (H : Sl h v xs) (hf : Fr S h h') (hS : ∀ k, k < h.size → v.ownBlock = some k → ¬ S k) : Sl h' v xs := by
  obtain ⟨a, c, rfl, h1⟩ := H
  refine ⟨a, c, rfl, ?_⟩
  rcases h1 with h1 | ⟨b, o, rfl, h1⟩
  · exact .inl h1
  · by_cases hne : xs = []
    · exact .inl hne
    · have hb := h1.lt hne
      exact .inr ⟨b, o, rfl, hf.rd h1 hb (hS b hb rfl)⟩
theorem Sl.ext {h' : Heap} {v : Value} {xs : List Value} (H : Sl h v xs) (hf : Ext h h') : Sl h' v xs := H.fr hf fun _ _ _ => _root_.id
/-- The element at an index. -/
theorem Sl.at {v : Value} {xs : List Value} (H : Sl h v xs) {i : Nat} (hi : i < xs.length) : ∃ b o c, v = .slice (some ⟨b, o, none⟩) xs.length c ∧ b < h.size ∧ cellAt h ⟨b, o + i, none⟩ = some (xs.getD i undef) := by
  obtain ⟨a, c, rfl, h1⟩ := H
  rcases h1 with rfl | ⟨b, o, rfl, h1⟩
  · simp at hi
  · refine ⟨b, o, c, rfl, h1.lt (by intro e; subst e; simp at hi), ?_⟩
    refine h1 i _ ?_
    simp [hi]

/-! #### make, stores -/
theorem eff_make {t e : TypeId} {size bytes : Nat} (hT : slT P t e size bytes = true) {x y : Operand} {k k' : IntKind} {n : Int} (hx : evo τ ρ x = some (.int k n)) (hy : evo τ ρ y = some (.int k' n)) (h0 : 0 ≤ n) (hb : (bytes : Int) * n ≤ 281474976710656) (h63 : n ≤ 9223372036854775807)
    (H : ∀ cs : Array Value, ∀ z i, P.info? e = some i → i.zero = some z → cs = madeCells z.cells (n.toNat * size) → K (.slice (some ⟨h.size, 0, none⟩) n.toNat n.toNat) (h.push (.cells cs e))) : eff P (.makeSlice t x y) ty τ ρ h K := by
  obtain ⟨i, z, t1, t2, t3, t4, t5, t6, t7⟩ := slT_spec hT
  refine eff_2 (x := x) (y := y) (by rfl) hx hy fun f hf1 hf2 => ?_
  simp only [execOp, Sop.oper, hf1, hf2]
  refine sr_v fun w hw => ?_
  subst hw
  have hr := run_make (P := P) w t e i z t1 t2 t3 k k' n n h0 (Int.le_refl _) (by rw [t5]; exact hb) h63
  rw [t4] at hr
  exact ⟨_, _, hr, ⟨rfl, rfl, rfl⟩, H _ z i t2 t3 rfl⟩

theorem eff_store1 {t : TypeId} {i : TypeInfo} (hi : P.info? t = some i) (hsz : i.size = 1) {x y : Operand} {b o : Nat} {v u : Value} (hx : evo τ ρ x = some (.pointer (some ⟨b, o, none⟩))) (hy : evo τ ρ y = some v)
    (hv : v.cells = #[v]) (hone : oneCell v = true) (hc : cellAt h ⟨b, o, none⟩ = some u) (hz : frozenAt h ⟨b, o, none⟩ = false) (H : K undef (setAt h ⟨b, o, none⟩ v)) : eff P (.store t x y) ty τ ρ h K := by
  refine eff_2 (x := x) (y := y) (by rfl) hx hy fun f hf1 hf2 => ?_
  simp only [execOp, Sop.oper, hf1, hf2]
  refine sr_u (sr_of_hr ?_)
  show hr P (storeVar t ⟨b, o, none⟩ v) h _
  unfold storeVar
  rw [hr_bind']
  refine hr_of_rd _ _ i.size _ (rd_sizeOf hi) ?_
  rw [hv, hsz]
  exact ⟨hone, by show (cellAt h ⟨b, o, none⟩).isSome = true; rw [hc]; rfl, hz, H⟩

/-- A store of a value of several cells. -/
theorem eff_storeN {t : TypeId} {i : TypeInfo} (hi : P.info? t = some i) {x y : Operand} {b o : Nat} {v : Value} {cur : Array Value} {e : TypeId} {fz : Nat × Nat}
    (hx : evo τ ρ x = some (.pointer (some ⟨b, o, none⟩))) (hy : evo τ ρ y = some v) (hsz : v.cells.size = i.size) (hone : ∀ u ∈ v.cells.toList, oneCell u = true)
    (hb : h[b]? = some (.cells cur e fz)) (hlen : o + i.size ≤ cur.size) (hfz : ∀ j, o ≤ j → j < o + i.size → ¬ (fz.1 ≤ j ∧ j < fz.2))
    (H : ∀ h', Fr (fun k => k = b) h h' → h'.size = h.size → h'[b]? = some (.cells (cur.toList.take o ++ v.cells.toList ++ cur.toList.drop (o + i.size)).toArray e fz) → K undef h') : eff P (.store t x y) ty τ ρ h K := by
  refine eff_2 (x := x) (y := y) (by rfl) hx hy fun f hf1 hf2 => ?_
  simp only [execOp, Sop.oper, hf1, hf2]
  refine sr_u fun w hw => ?_
  subst hw
  have hone' : ∀ u ∈ v.cells.toList, u.oneCell' = true := fun u hu => by have := hone u hu; cases u <;> first | rfl | (simp [oneCell] at this)
  have hl : v.cells.toList.length = i.size := by rw [Array.length_toList, hsz]
  have hst := run_storeCells_cells (P := P) b o v.cells.toList 0 w (fun j hj => by simp [World.cell?, hb]; omega)
    (fun j hj => by
      have := hfz (o + 0 + j) (by omega) (by omega)
      simp only [World.frozen?, hb, Bool.and_eq_false_iff, decide_eq_false_iff_not]
      simp only [Nat.add_zero] at this ⊢
      omega) hone'
  simp only [Nat.add_zero] at hst
  rw [setCells_row b e fz v.cells.toList o cur w hb (by omega), hl] at hst
  refine ⟨(), w.setRow b (cur.toList.take o ++ v.cells.toList ++ cur.toList.drop (o + i.size)).toArray, ?_, ⟨rfl, rfl, rfl⟩, H _ ⟨by simp, fun k hk hn => setRow_other w b k _ hn⟩ (by simp) (setRow_heap w b cur _ e _ hb)⟩
  show (storeVar t ⟨b, o, none⟩ v).run P w = _
  have hsize : (sizeOf t).run P w = .ok i.size w := rd_run _ w i.size (by rw [rd_sizeOf hi])
  unfold storeVar
  rw [Sem.run_bind, hsize]
  simp only [Result.andThen, hsz, ne_eq, not_true_eq_false, if_false]
  exact hst
/-- The same, into a variable that was just made. -/
theorem eff_store_new {t : TypeId} {i : TypeInfo} (hi : P.info? t = some i) {x y : Operand} {v : Value} {cs : Array Value} {e : TypeId}
    (hx : evo τ ρ x = some (.pointer (some ⟨h.size, 0, none⟩))) (hy : evo τ ρ y = some v) (hsz : v.cells.size = i.size) (hone : ∀ u ∈ v.cells.toList, oneCell u = true) (hcs : cs.size = i.size)
    (H : ∀ h', Ext h h' → h.size < h'.size → Rd h' h.size 0 v.cells.toList → h'[h.size]? = some (.cells v.cells e (0, 0)) → K undef h') : eff P (.store t x y) ty τ ρ (h.push (.cells cs e)) K := by
  refine eff_storeN (cur := cs) (e := e) (fz := (0, 0)) hi hx hy hsz hone (by simp) (by omega) (by intro j _ _; simp) fun h' hf hs hb => ?_
  have hb' : h'[h.size]? = some (.cells v.cells e (0, 0)) := by
    rw [hb]
    have : cs.toList.drop (0 + i.size) = [] := by rw [List.drop_eq_nil_iff]; simp; omega
    rw [this]; simp
  refine H h' (Fr.trans (Ext.push h _) hf (fun _ _ h => h) fun k hk hS => by omega) (by rw [hs]; simp) ?_ hb'
  intro j u hu
  rw [Nat.zero_add, cellAt_of hb']; simpa using hu

/-- The cells of a type's zero. -/
def zrT (P : Program) (t : TypeId) (cs : Array Value) : Prop := ((P.info? t).bind fun i => i.zero.map fun z => (z.cells, i.size)) = some (cs, cs.size)
theorem zr_spec {t : TypeId} {cs : Array Value} (H : zrT P t cs) : ∃ i z, P.info? t = some i ∧ i.zero = some z ∧ z.cells = cs ∧ i.size = cs.size := by
  unfold zrT at H
  cases hi : P.info? t with
  | none => rw [hi] at H; cases H
  | some i =>
    rw [hi] at H
    cases hz : i.zero with
    | none => rw [Option.bind_some, hz] at H; cases H
    | some z =>
      rw [Option.bind_some, hz] at H
      simp only [Option.map_some, Option.some.injEq, Prod.mk.injEq] at H
      exact ⟨i, z, rfl, hz, H.1, H.2⟩
theorem eff_alloc_z {e : TypeId} {cs : Array Value} (hz : zrT P e cs) (H : K (.pointer (some ⟨h.size, 0, none⟩)) (h.push (.cells cs e))) : eff P (.alloc e) ty τ ρ h K := by
  obtain ⟨i, z, h1, h2, rfl, _⟩ := zr_spec hz
  exact eff_alloc h1 h2 H
theorem eff_store1_z {t : TypeId} {cs : Array Value} (hz : zrT P t cs) (hsz : cs.size = 1) {x y : Operand} {b o : Nat} {v u : Value} (hx : evo τ ρ x = some (.pointer (some ⟨b, o, none⟩))) (hy : evo τ ρ y = some v)
    (hv : v.cells = #[v]) (hone : oneCell v = true) (hc : cellAt h ⟨b, o, none⟩ = some u) (hfz : frozenAt h ⟨b, o, none⟩ = false) (H : K undef (setAt h ⟨b, o, none⟩ v)) : eff P (.store t x y) ty τ ρ h K := by
  obtain ⟨i, z, h1, h2, rfl, h3⟩ := zr_spec hz
  exact eff_store1 h1 (by omega) hx hy hv hone hc hfz H
theorem eff_store_new_z {t : TypeId} {cz : Array Value} (hz : zrT P t cz) {x y : Operand} {v : Value} {cs : Array Value} {e : TypeId}
    (hx : evo τ ρ x = some (.pointer (some ⟨h.size, 0, none⟩))) (hy : evo τ ρ y = some v) (hsz : v.cells.size = cz.size) (hone : ∀ u ∈ v.cells.toList, oneCell u = true) (hcs : cs.size = cz.size)
    (H : ∀ h', Ext h h' → h.size < h'.size → Rd h' h.size 0 v.cells.toList → h'[h.size]? = some (.cells v.cells e (0, 0)) → K undef h') : eff P (.store t x y) ty τ ρ (h.push (.cells cs e)) K := by
  obtain ⟨i, z, h1, h2, rfl, h3⟩ := zr_spec hz
  exact eff_store_new h1 hx hy (by omega) hone (by omega) H

/-! #### A slice that is read, elements of any number of cells -/
def SlN (h : Heap) (size : Nat) (v : Value) (n : Nat) (xs : List Value) : Prop := xs.length = n * size ∧ ∃ a c, v = .slice a n c ∧ (n = 0 ∨ ∃ b o, a = some ⟨b, o, none⟩ ∧ Rd h b o xs)
theorem Own.slN {base : Nat} {e : TypeId} {size : Nat} {v : Value} {n : Nat} {xs : List Value} (H : Own h base e size v n xs) : SlN h size v n xs := by
  refine ⟨H.1, ?_⟩
  rcases H.rd with ⟨rfl, rfl, rfl⟩ | ⟨g, cap, rfl, _, h3⟩
  · exact ⟨none, 0, rfl, .inl rfl⟩
  · exact ⟨_, cap, rfl, .inr ⟨g, 0, rfl, h3⟩⟩
theorem SlN.fr {S : Nat → Prop} {h' : Heap} {size : Nat} {v : Value} {n : Nat} {xs : List Value} (H : SlN h size v n xs) (hsz : 0 < size) (hf : Fr S h h') (hS : ∀ k, k < h.size → v.ownBlock = some k → ¬ S k) : SlN h' size v n xs := by
  obtain ⟨hl, a, c, rfl, h1⟩ := H
  refine ⟨hl, a, c, rfl, ?_⟩
  rcases h1 with h1 | ⟨b, o, rfl, h1⟩
  · exact .inl h1
  · by_cases hne : xs = []
    · subst hne
      rcases Nat.eq_zero_or_pos n with h0 | h0
      · exact .inl h0
      · exact absurd hl (by have := Nat.mul_pos h0 hsz; simp; omega)
    · have hb := h1.lt hne
      exact .inr ⟨b, o, rfl, hf.rd h1 hb (hS b hb rfl)⟩
theorem SlN.ext {h' : Heap} {size : Nat} {v : Value} {n : Nat} {xs : List Value} (H : SlN h size v n xs) (hsz : 0 < size) (hf : Ext h h') : SlN h' size v n xs := H.fr hsz hf fun _ _ _ => _root_.id
theorem Rd.sub {b o : Nat} {xs : List Value} (H : Rd h b o xs) (k m : Nat) : Rd h b (o + k) ((xs.drop k).take m) := by
  intro j v hv
  rw [List.getElem?_take] at hv
  split at hv
  · rw [List.getElem?_drop] at hv
    have := H (k + j) v hv
    rwa [← Nat.add_assoc] at this
  · cases hv
/-- The element at an index. -/
theorem SlN.at {size : Nat} {v : Value} {n : Nat} {xs : List Value} (H : SlN h size v n xs) {i : Nat} (hi : i < n) : ∃ b o c, v = .slice (some ⟨b, o, none⟩) n c ∧ Rd h b (o + i * size) ((xs.drop (i * size)).take size) ∧ ((xs.drop (i * size)).take size).length = size := by
  obtain ⟨hl, a, c, rfl, h1⟩ := H
  rcases h1 with rfl | ⟨b, o, rfl, h1⟩
  · omega
  · refine ⟨b, o, c, rfl, h1.sub _ _, ?_⟩
    rw [List.length_take, List.length_drop, hl]
    have : (i + 1) * size ≤ n * size := Nat.mul_le_mul_right _ hi
    rw [Nat.add_mul] at this
    omega
end
end Go.Vc

/- Maps whose keys are numbers, texts or bools. No condition. -/
import Derived.Test.YtohkbpnblkkdgaaVcM
import Derived.MapKept
namespace Go.Vc
open Go.MapKept
set_option linter.unusedSimpArgs false
set_option linter.unusedVariables false

/-- A map on the heap: what stands at each key. -/
def MapO {κ : Type} (mk : κ → Value) (h : Heap) (b : Nat) (F : κ → Option Value) : Prop :=
  ∃ es clock, h[b]? = some (.map es clock) ∧ Stamped es clock ∧ (∀ x ∈ es.toList, ∃ a, x.key = mk a) ∧ ∀ a v, F a = some v ↔ ∃ x ∈ es.toList, x.key = mk a ∧ x.val = v
/-- A map's type: of which kind its keys are, and the zero of what it holds. -/
def mpT (P : Program) (t : TypeId) (d : TypeDesc) (z : Value) : Prop := ∃ k e i, P.underlying t = some (.map k e) ∧ P.underlying k = some d ∧ P.info? e = some i ∧ i.zero = some z

section
variable {P : Program} {τ ρ : Env} {h : Heap} {K : Value → Heap → Prop} {ty : TypeId} {κ : Type} {mk : κ → Value} {F : κ → Option Value} {b : Nat}

theorem MapO.fr {S : Nat → Prop} {h' : Heap} (H : MapO mk h b F) (hf : Fr S h h') (hS : ¬ S b) : MapO mk h' b F := by
  obtain ⟨es, c, h1, h2, h3, h4⟩ := H
  exact ⟨es, c, by rw [hf.same b (Array.getElem?_eq_some_iff.1 h1).1 hS]; exact h1, h2, h3, h4⟩
theorem MapO.lt (H : MapO mk h b F) : b < h.size := by
  obtain ⟨es, c, h1, _⟩ := H
  exact (Array.getElem?_eq_some_iff.1 h1).1
theorem MapO.new : MapO mk (h.push (.map #[] 0)) h.size (fun _ => none) :=
  ⟨#[], 0, by simp, stamped_empty 0, by simp, by simp⟩

theorem rd_checkKey {kt : TypeId} {d : TypeDesc} {k : Value} (hd : P.underlying kt = some d) (hk : IsKey d k) (e : Bool) (n : Nat) : rd P (Instr.checkKey e (n + 1) kt k) h = some () := by
  unfold Instr.checkKey
  rw [rd_bind', rd_underlying hd, Option.bind_some]
  cases d <;> cases k <;> first | exact hk.elim | rfl
theorem rd_findKey {kt : TypeId} {d : TypeDesc} {k : Value} {l : List MapEntry} {a : Option (Nat × Value)} (hd : P.underlying kt = some d) (hf : Instr.findNow d k l 0 = some a) : rd P (Instr.findKey kt k l) h = some a := by
  unfold Instr.findKey
  rw [rd_bind', rd_underlying hd, Option.bind_some, hf]
  rfl
theorem rd_getMap {es : Array MapEntry} {c : Nat} (hb : h[b]? = some (.map es c)) : rd P (getObj b) h = some (.map es c) := by
  unfold getObj; simp only [rd, hb]
theorem lk_map {t : TypeId} {d : TypeDesc} {z : Value} (hT : mpT P t d z) (hk : ∀ a, IsKey d (mk a)) (H : MapO mk h b F) (a : κ) (ok : Bool) :
    lkE P t (.map (some b)) (mk a) ok h = some (if ok then .tuple #[(F a).getD z, .bool (F a).isSome] else (F a).getD z) := by
  obtain ⟨k, e, i, t1, t2, t3, t4⟩ := hT
  obtain ⟨es, c, h1, h2, h3, h4⟩ := H
  have hks : ∀ x ∈ es.toList, IsKey d x.key := by
    intro x hx
    obtain ⟨a', ha⟩ := h3 x hx
    rw [ha]; exact hk a'
  have hz : rd P (zeroValue e) h = some z := rd_zeroValue t3 t4
  unfold lkE Instr.lookup
  rw [rd_bind', rd_underlying t1, Option.bind_some]
  simp only [rd_bind', rd_getMap h1, rd_pure, Option.bind_some]
  rw [rd_checkKey t2 (hk a), Option.bind_some]
  rcases findNow_spec (hk a) es.toList 0 hks with ⟨f1, f2⟩ | ⟨j, e0, f1, f2, f3⟩
  · rw [rd_findKey t2 f1]
    have hn : F a = none := by
      cases hF : F a with
      | none => rfl
      | some v =>
        obtain ⟨x, hx, hxk, _⟩ := (h4 a v).1 hF
        exact absurd hxk (f2 x hx)
    simp only [Option.bind_some, rd_bind', hz, rd_pure, hn]
    cases ok <;> rfl
  · rw [rd_findKey t2 f1]
    have hn : F a = some e0.val := (h4 a _).2 ⟨e0, List.mem_of_getElem? f2, f3, rfl⟩
    simp only [Option.bind_some, rd_bind', rd_pure, hn]
    cases ok <;> rfl
theorem eff_makemap {t : TypeId} (H : K (.map (some h.size)) (h.push (.map #[] 0))) : eff P (.makeMap t none) ty τ ρ h K := by
  refine ⟨by intro x hx; simp [Op.operands] at hx, ?_⟩
  simp only [execOp, Sop.oper]
  refine sr_v (sr_of_run fun w hw => ?_)
  subst hw
  exact ⟨_, w.alloc (.map #[] 0), rfl, ⟨rfl, rfl, rfl⟩, H⟩
/-- The store at a key. -/
theorem eff_mapset [DecidableEq κ] {t : TypeId} {d : TypeDesc} {z : Value} (hT : mpT P t d z) (hk : ∀ a, IsKey d (mk a)) (hinj : ∀ a a', mk a = mk a' → a = a') {m x y : Operand} {a : κ} {v : Value}
    (hm : evo τ ρ m = some (.map (some b))) (hx : evo τ ρ x = some (mk a)) (hy : evo τ ρ y = some v) (H : MapO mk h b F)
    (hK : ∀ h', MapO mk h' b (fun a' => if a' = a then some v else F a') → Fr (fun k => k = b) h h' → h'.size = h.size → K undef h') : eff P (.mapUpdate t m x y) ty τ ρ h K := by
  obtain ⟨k, e, i, t1, t2, t3, t4⟩ := hT
  obtain ⟨es, c, h1, h2, h3, h4⟩ := H
  refine ⟨by intro u hu; simp [Op.operands] at hu; rcases hu with rfl | rfl | rfl <;> simp [hm, hx, hy], ?_⟩
  have hks : ∀ x ∈ es.toList, IsKey d x.key := by
    intro x hx
    obtain ⟨a', ha⟩ := h3 x hx
    rw [ha]; exact hk a'
  have e1 : evd τ ρ m = .map (some b) := by simp [evd, hm]
  have e2 : evd τ ρ x = mk a := by simp [evd, hx]
  have e3 : evd τ ρ y = v := by simp [evd, hy]
  have hlt : b < h.size := (Array.getElem?_eq_some_iff.1 h1).1
  simp only [execOp, Sop.oper, e1, e2, e3]
  refine sr_u (sr_of_run fun w hw => ?_)
  subst hw
  have fin : ∀ es' c', Fr (fun k => k = b) w.heap (w.heap.setIfInBounds b (.map es' c')) := fun es' c' => ⟨by simp, fun k' hk' hne => by simp [Ne.symm hne]⟩
  have getb : ∀ es' c', (w.heap.setIfInBounds b (.map es' c'))[b]? = some (.map es' c') := fun es' c' => by simp [hlt]
  rcases findNow_spec (hk a) es.toList 0 hks with ⟨f1, f2⟩ | ⟨j, e0, f1, f2, f3⟩
  · refine ⟨(), { w with heap := w.heap.setIfInBounds b (.map (es.push ⟨mk a, v, c⟩) (c + 1)) }, ?_, ⟨rfl, rfl, rfl⟩, hK _ ⟨_, _, getb _ _, stamped_push h2 f2, ?_, ?_⟩ (fin _ _) (by simp)⟩
    · simp [Instr.mapUpdate, run_underlying t1, MapKept.run_getObj_map h1, run_checkKey t2 (hk a), run_findKey t2 f1, MapKept.run_setObj_map _ h1, Result.andThen]
    · intro x hx
      simp only [Array.toList_push, List.mem_append, List.mem_singleton] at hx
      rcases hx with hx | rfl
      · exact h3 x hx
      · exact ⟨a, rfl⟩
    · intro a' v'
      simp only [Array.toList_push, List.mem_append, List.mem_singleton]
      by_cases ha : a' = a
      · subst ha
        simp only [if_true, Option.some.injEq]
        constructor
        · rintro rfl; exact ⟨_, Or.inr rfl, rfl, rfl⟩
        · rintro ⟨x, hx | rfl, hxk, hxv⟩
          · exact absurd hxk (f2 x hx)
          · exact hxv
      · simp only [if_neg ha]
        rw [h4]
        constructor
        · rintro ⟨x, hx, hxk, hxv⟩; exact ⟨x, Or.inl hx, hxk, hxv⟩
        · rintro ⟨x, hx | rfl, hxk, hxv⟩
          · exact ⟨x, hx, hxk, hxv⟩
          · exact absurd (hinj _ _ hxk).symm ha
  · have hj : es[j]? = some e0 := by simpa using f2
    have hjl : j < es.toList.length := (List.getElem?_eq_some_iff.1 f2).1
    have hstay : ∀ w' : World, (Instr.keyThatStays (mk a) (mk a)).run P w' = .ok (mk a) w' := fun w' => run_keyThatStays (hk a)
    refine ⟨(), { w with heap := w.heap.setIfInBounds b (.map (es.modify j fun e' => { e' with key := mk a, val := v }) c) }, ?_, ⟨rfl, rfl, rfl⟩, hK _ ⟨_, _, getb _ _, stamped_modify h2 _ _ (fun _ _ => rfl) (fun e' _ he' => by rw [hj] at he'; cases he'; exact f3.symm), ?_, ?_⟩ (fin _ _) (by simp)⟩
    · simp [Instr.mapUpdate, run_underlying t1, MapKept.run_getObj_map h1, run_checkKey t2 (hk a), run_findKey t2 f1, hj, f3, hstay, MapKept.run_setObj_map _ h1, Result.andThen]
    · intro x hx
      rcases List.mem_iff_getElem?.1 hx with ⟨i, hi⟩
      rw [Array.toList_modify, List.getElem?_modify] at hi
      split at hi
      · cases hg : es.toList[i]? with
        | none => rw [hg] at hi; cases hi
        | some y => rw [hg] at hi; cases hi; exact ⟨a, rfl⟩
      · cases hg : es.toList[i]? with
        | none => rw [hg] at hi; cases hi
        | some y => rw [hg] at hi; cases hi; exact h3 y (List.mem_of_getElem? hg)
    · have hnd := h2.2.2
      have huniq : ∀ i y, es.toList[i]? = some y → y.key = mk a → i = j := by
        intro i y hi hy
        have hil : i < es.toList.length := (List.getElem?_eq_some_iff.1 hi).1
        by_cases hij : i = j
        · exact hij
        · exfalso
          have q1 : (es.toList.map (·.key))[i]? = some (mk a) := by rw [List.getElem?_map, hi]; simp [hy]
          have q2 : (es.toList.map (·.key))[j]? = some (mk a) := by rw [List.getElem?_map, f2]; simp [f3]
          exact hij ((List.getElem?_inj (by simpa using hil) hnd).1 (q1.trans q2.symm))
      have hmem : ∀ y : MapEntry, y ∈ (es.modify j fun e' => { e' with key := mk a, val := v }).toList ↔ y = { e0 with key := mk a, val := v } ∨ ∃ i, i ≠ j ∧ es.toList[i]? = some y := by
        intro y
        rw [Array.toList_modify, List.mem_iff_getElem?]
        constructor
        · rintro ⟨i, hi⟩
          rw [List.getElem?_modify] at hi
          by_cases hij : j = i
          · subst hij
            simp only [if_true, f2, Functor.map, Option.map_some, Option.some.injEq] at hi
            exact Or.inl hi.symm
          · simp only [if_neg hij] at hi
            have hi : es.toList[i]? = some y := by simpa using hi
            exact Or.inr ⟨i, fun e => hij e.symm, hi⟩
        · rintro (rfl | ⟨i, hij, hi⟩)
          · exact ⟨j, by rw [List.getElem?_modify, f2]; simp⟩
          · exact ⟨i, by rw [List.getElem?_modify]; simp only [if_neg (Ne.symm hij)]; simpa using hi⟩
      intro a' v'
      by_cases ha : a' = a
      · subst ha
        simp only [if_true, Option.some.injEq]
        constructor
        · rintro rfl; exact ⟨_, (hmem _).2 (Or.inl rfl), rfl, rfl⟩
        · rintro ⟨x, hx, hxk, hxv⟩
          rcases (hmem x).1 hx with rfl | ⟨i, hij, hi⟩
          · exact hxv
          · exact absurd (huniq i x hi hxk) hij
      · simp only [if_neg ha]
        rw [h4]
        constructor
        · rintro ⟨x, hx, hxk, hxv⟩
          obtain ⟨i, hi⟩ := List.mem_iff_getElem?.1 hx
          refine ⟨x, (hmem x).2 (Or.inr ⟨i, fun hij => ?_, hi⟩), hxk, hxv⟩
          subst hij
          rw [f2] at hi
          cases hi
          exact ha (hinj _ _ (hxk.symm.trans f3))
        · rintro ⟨x, hx, hxk, hxv⟩
          rcases (hmem x).1 hx with rfl | ⟨i, hij, hi⟩
          · exact absurd (hinj _ _ hxk).symm ha
          · exact ⟨x, List.mem_of_getElem? hi, hxk, hxv⟩
end
end Go.Vc

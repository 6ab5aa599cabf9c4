/- Interface values made and asked, slices cleared. No condition. -/
import Derived.Test.YtidkokdkldfglaaVcS
namespace Go.Vc
set_option linter.unusedSimpArgs false
set_option linter.unusedVariables false
section
variable {P : Program} {τ ρ : Env} {h : Heap} {K : Value → Heap → Prop} {ty : TypeId}
def mkI (P : Program) (t : TypeId) (v : Value) (h : Heap) : Option Value := rd P (Instr.makeInterface t v) h
theorem rdo_iface {t : TypeId} {x : Operand} : rdo P (.makeInterface t x) ty τ ρ h = (evo τ ρ x).bind fun v => mkI P t v h := by
  refine rdo_1 (x := x) (by rfl) (fun v => mkI P t v h) fun e => ?_
  simp only [execOp, Sop.oper, rd_bind', rd_pure]
  show valOf ((rd P (Instr.makeInterface t (e x)) h).bind fun v => rd P (pure (Next.value v)) h) = _
  unfold mkI
  cases rd P (Instr.makeInterface t (e x)) h <;> rfl
def ifcT (P : Program) (t : TypeId) : Bool := match P.underlying t with
  | some (.interface _) => false
  | some _ => true
  | none => false
theorem mkI_of {t : TypeId} {v : Value} (ht : ifcT P t = true) : mkI P t v h = some (.iface t v) := by
  unfold ifcT at ht
  cases hu : P.underlying t with
  | none => rw [hu] at ht; cases ht
  | some d =>
    rw [hu] at ht
    unfold mkI Instr.makeInterface
    rw [rd_bind', rd_underlying hu]
    cases d <;> first | (cases ht; done) | rfl
/-- The row of a method: a pointer's own. -/
def mtT (P : Program) (t : TypeId) (m : String) (f : FuncId) : Bool := (match P.info? t with
  | some i => match i.methods.find? (·.name == m) with
    | some r => r.path.size == 0 && (match r.func with
      | some (g, true) => g == f
      | _ => false)
    | none => false
  | none => false) && (match P.underlying t with
  | some (.pointer _) => true
  | _ => false) && callable P f
theorem rd_method {t : TypeId} {m : String} {f : FuncId} {v : Value} {n : Nat} (ht : mtT P t m f = true) (hn : 0 < n) : rd P (method n t v m) h = some (f, v) := by
  obtain ⟨k, rfl⟩ : ∃ k, n = k + 1 := ⟨n - 1, by omega⟩
  unfold mtT at ht
  rw [Bool.and_eq_true, Bool.and_eq_true] at ht
  obtain ⟨⟨h1, h2⟩, _⟩ := ht
  unfold method
  cases hi : P.info? t with
  | none => rw [hi] at h1; cases h1
  | some i =>
    rw [hi] at h1
    simp only [] at h1
    rw [rd_bind', rd_typeInfo hi, Option.bind_some]
    cases hm : i.methods.find? (·.name == m) with
    | none => rw [hm] at h1; cases h1
    | some r =>
      rw [hm] at h1
      simp only [Bool.and_eq_true, beq_iff_eq] at h1
      obtain ⟨h3, h4⟩ := h1
      have hp : r.path = #[] := Array.eq_empty_of_size_eq_zero h3
      cases hf : r.func with
      | none => rw [hf] at h4; cases h4
      | some gp =>
        obtain ⟨g, ptr⟩ := gp
        rw [hf] at h4
        cases ptr with
        | false => cases h4
        | true =>
          have h5 : g = f := by simpa using h4
          subst h5
          simp only [hp]
          rw [rd_bind']
          show (rd P (pure (t, Place.val v)) h).bind _ = _
          rw [rd_pure, Option.bind_some]
          simp only [hf]
          rw [rd_bind']
          unfold receiverAt
          rw [rd_bind']
          cases hu : P.underlying t with
          | none => rw [hu] at h2; cases h2
          | some d =>
            rw [hu] at h2
            rw [rd_underlying hu, Option.bind_some]
            cases d <;> first | (cases h2; done) | rfl
theorem mt_callable {t : TypeId} {m : String} {f : FuncId} (ht : mtT P t m f = true) : callable P f = true := by
  unfold mtT at ht
  rw [Bool.and_eq_true] at ht
  exact ht.2
theorem eff_invoke {x : Operand} {m : String} {t : TypeId} {f : FuncId} {v : Value} {args : List Operand} {ats : Array TypeId} {vs : List Value} (ht : mtT P t m f = true)
    (hx : evo τ ρ x = some (.iface t v)) (hv : evs τ ρ args = some vs) (H : HCalls P f (v :: vs).toArray h K) : eff P (.call { callee := .invoke x m, args := args.toArray, argTypes := ats }) ty τ ρ h K := by
  obtain ⟨k1, k2⟩ := evs_some args vs hv
  refine ⟨?_, ?_⟩
  · intro y hy
    simp only [Op.operands, Call.operands] at hy
    rcases Array.mem_append.1 hy with hy | hy
    · simp at hy; subst hy; rw [hx]; rfl
    · exact k1 y (by simpa using hy)
  · simp only [execOp, Sop.oper, resolve]
    refine sr_of_hr ?_
    have he : evd τ ρ x = .iface t v := by simp [evd, hx]
    rw [hr_bind', hr_pure]
    have ha : (#[evd τ ρ x] ++ args.toArray.map (evd τ ρ)) = (Value.iface t v :: vs).toArray := by
      rw [he, List.map_toArray, k2]; simp
    show hr P (invoke (.fn (.method m) #[]) (#[evd τ ρ x] ++ args.toArray.map (evd τ ρ))) h _
    rw [ha]
    have hz : (Value.iface t v :: vs).toArray[0]? = some (.iface t v) := rfl
    simp only [invoke, hz]
    have hy : (Value.iface t v :: vs).toArray.extract 1 (Value.iface t v :: vs).toArray.size = vs.toArray := by
      apply Array.toList_inj.1; simp
    rw [hy]
    unfold callMethod
    simp only []
    rw [hr_bind']
    refine hr_of_rd _ _ P _ rfl ?_
    rw [hr_bind']
    refine hr_of_rd _ _ (f, v) _ (rd_method ht (by unfold Made.depth; omega)) ?_
    simp only []
    rw [hr_callFunc (mt_callable ht)]
    have e : #[v] ++ vs.toArray = (v :: vs).toArray := by simp
    rw [e]
    exact H
theorem zeroCells_len (cz : Array Value) (n : Nat) : (Builtin.zeroCells cz n).toList.length = n * cz.size := by simp [Builtin.zeroCells]
theorem zeroCells_one {cz : Array Value} (h1 : ∀ u ∈ cz.toList, oneCell u = true) (n : Nat) : ∀ u ∈ (Builtin.zeroCells cz n).toList, oneCell u = true := by
  intro u hu
  simp only [Builtin.zeroCells, Array.toList_map, List.mem_map, Array.toList_range, List.mem_range] at hu
  obtain ⟨i, hi, rfl⟩ := hu
  have hs : 0 < cz.size := by
    rcases Nat.eq_zero_or_pos cz.size with e | e
    · rw [e] at hi; omega
    · exact e
  have hm : i % cz.size < cz.size := Nat.mod_lt _ hs
  refine h1 _ ?_
  rw [getElem!_pos cz _ hm]
  simp
theorem eff_clear {t e : TypeId} {size bytes : Nat} (hT : slT P t e size bytes = true) {cz : Array Value} (hz : zrT P e cz) {x : Operand} {g o m c : Nat} {cur : Array Value} {fz : Nat × Nat} {e' : TypeId}
    (hx : evo τ ρ x = some (.slice (some ⟨g, o, none⟩) m c)) (hb : h[g]? = some (.cells cur e' fz)) (hl : o + m * size ≤ cur.size) (hf : ∀ j, o ≤ j → j < o + m * size → ¬ (fz.1 ≤ j ∧ j < fz.2)) (hone : ∀ u ∈ cz.toList, oneCell u = true)
    (H : ∀ h', Fr (fun k => k = g) h h' → h'.size = h.size → h'[g]? = some (.cells (cur.toList.take o ++ (Builtin.zeroCells cz m).toList ++ cur.toList.drop (o + m * size)).toArray e' fz) → K (.tuple #[]) h') :
    eff P (.call { callee := .builtin .clear, args := #[x], argTypes := #[t] }) ty τ ρ h K := by
  obtain ⟨i, z, t1, t2, t3, t4, t5, t6, t7⟩ := slT_spec hT
  obtain ⟨i', z', u1, u2, rfl, u4⟩ := zr_spec hz
  rw [t2] at u1; cases u1
  rw [t3] at u2; cases u2
  refine eff_1 (x := x) (by rfl) hx fun f hf1 => ?_
  intro w hw
  subst hw
  have hlen : (Builtin.zeroCells z.cells m).toList.length = m * size := by rw [zeroCells_len, t6]
  have hone' : ∀ u ∈ (Builtin.zeroCells z.cells m).toList, u.oneCell' = true := fun u hu => by have := zeroCells_one hone m u hu; cases u <;> first | rfl | (simp [oneCell] at this)
  have hst := run_storeCells_cells (P := P) g o (Builtin.zeroCells z.cells m).toList 0 w (fun j hj => by rw [hlen] at hj; simp [World.cell?, hb]; omega)
    (fun j hj => by
      rw [hlen] at hj
      have := hf (o + 0 + j) (by omega) (by omega)
      simp only [World.frozen?, hb, Bool.and_eq_false_iff, decide_eq_false_iff_not]
      simp only [Nat.add_zero] at this ⊢
      omega) hone'
  simp only [Nat.add_zero] at hst
  rw [setCells_row g e' fz _ o cur w hb (by rw [hlen]; exact hl), hlen] at hst
  refine ⟨.value (.tuple #[]), w.setRow g (cur.toList.take o ++ (Builtin.zeroCells z.cells m).toList ++ cur.toList.drop (o + m * size)).toArray, ?_, ⟨rfl, rfl, rfl⟩, H _ ⟨by simp, fun k hk hn => setRow_other w g k _ hn⟩ (by simp) (setRow_heap w g cur _ e' _ hb)⟩
  have hzv : (zeroValue e).run P w = .ok z w := rd_run _ w z (rd_zeroValue t2 t3)
  have hcl : (Builtin.clear_ #[t] ty #[.slice (some ⟨g, o, none⟩) m c]).run P w = .ok (.tuple #[]) (w.setRow g (cur.toList.take o ++ (Builtin.zeroCells z.cells m).toList ++ cur.toList.drop (o + m * size)).toArray) := by
    unfold Builtin.clear_
    cases m with
    | zero =>
      have e0 : w.setRow g (cur.toList.take o ++ (Builtin.zeroCells z.cells 0).toList ++ cur.toList.drop (o + 0 * size)).toArray = w := by
        have e1 : (cur.toList.take o ++ (Builtin.zeroCells z.cells 0).toList ++ cur.toList.drop (o + 0 * size)).toArray = cur := by
          have : (Builtin.zeroCells z.cells 0).toList = [] := by simp [Builtin.zeroCells]
          rw [this, List.append_nil, Nat.zero_mul, Nat.add_zero, List.take_append_drop]
        rw [e1]; exact setRow_self w g cur e' fz hb
      rw [e0]
      simp [run_underlying t1]
    | succ m =>
      simp [run_underlying t1, hzv, hst]
  simp only [execOp, Sop.oper, resolve, invoke, builtin, Sem.run_bind, Sem.run_pure, Result.andThen, List.map_toArray, List.map_cons, List.map_nil, hf1, hcl]
end
end Go.Vc

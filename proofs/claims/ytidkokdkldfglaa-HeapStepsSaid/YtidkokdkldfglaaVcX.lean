/- Range over a text, the text of a number, elements of an array behind a pointer, functions of Go's library that have no body. No condition. -/
import Derived.Test.YtidkokdkldfglaaVcS
import Derived.Lib.Bytealg
namespace Go.Vc
set_option linter.unusedSimpArgs false
set_option linter.unusedVariables false
section
variable {P : Program} {τ ρ : Env} {h : Heap} {K : Value → Heap → Prop} {ty : TypeId}

/-! ### Functions without a body -/
theorem eff_callX {g : FuncId} {fn : Func} {e : Array Value → Sem Value} {args : List Operand} {ats : Array TypeId} {vs : List Value} {v : Value}
    (hv : evs τ ρ args = some vs) (hf : P.funcs[g]? = some fn) (hname : (fn.name == "runtime.NumGoroutine") = false) (hb : fn.body.isNone = true) (hn : Extern.findNext fn = none) (he : Extern.find fn = some e)
    (hrun : ∀ w : World, (e vs.toArray).run P w = .ok v w) (H : K v h) : eff P (.call { callee := .value (.func g), args := args.toArray, argTypes := ats }) ty τ ρ h K := by
  obtain ⟨k1, k2⟩ := evs_some args vs hv
  refine ⟨?_, ?_⟩
  · intro x hx
    simp only [Op.operands, Call.operands] at hx
    rcases Array.mem_append.1 hx with hx | hx
    · simp at hx; subst hx; rfl
    · exact k1 x (by simpa using hx)
  · simp only [execOp, Sop.oper, resolve]
    have he2 : evd τ ρ (.func g) = .func (.func g) #[] #[] := rfl
    rw [he2]
    intro w hw
    refine ⟨.value v, w, ?_, ⟨rfl, rfl, rfl⟩, by rw [hw]; exact H⟩
    have hc := run_callFunc_extern (P := P) hf hname hb hn he vs.toArray w
    rw [hrun w] at hc
    rw [Sem.run_bind]
    show Result.andThen ((Sem.pure _ : Sem _).run P w) _ = _
    simp only [Sem.run_pure, Result.andThen, invoke]
    show (callFunc g ((#[] ++ args.toArray.map (evd τ ρ)) ++ #[])).run P w = _
    rw [List.map_toArray, k2]
    simpa using hc

/-! ### Range over a text -/
theorem eff_range_str {t : TypeId} {x : Operand} {l : List UInt8} (hu : P.underlying t = some .string) (hx : evo τ ρ x = some (str l))
    (H : K (.pointer (some ⟨h.size, 0, none⟩)) (h.push (.stringIter ⟨l.toArray⟩ 0))) : eff P (.range t x) ty τ ρ h K := by
  refine eff_1 (by rfl) hx fun f hf => ?_
  simp only [execOp, Sop.oper, hf]
  refine sr_v (sr_of_hr ?_)
  show hr P (Instr.range t (.string ⟨l.toArray⟩)) h K
  unfold Instr.range
  rw [hr_bind']
  refine hr_of_rd _ _ _ _ (rd_underlying hu) ?_
  exact H

theorem hr_getIter {r pos : Nat} {s : ByteArray} {K : Obj → Heap → Prop} (hr' : h[r]? = some (.stringIter s pos)) (H : K (.stringIter s pos) h) : hr P (getObj r) h K := by
  unfold getObj
  simp only [hr]
  rw [hr']
  exact H
theorem hr_setIter {r pos : Nat} {s : ByteArray} {o : Obj} {K : Unit → Heap → Prop} (hr' : h[r]? = some (.stringIter s pos)) (H : K () (h.setIfInBounds r o)) : hr P (setObj r o) h K := by
  unfold setObj
  simp only [hr]
  rw [hr']
  exact H
/-- What stands at a place of a text, and its length. -/
def decU (l : List UInt8) (i : Nat) : Nat × Nat := Utf8.decode ⟨l.toArray⟩ i
theorem eff_next_str {x : Operand} {r pos : Nat} {l : List UInt8} (hx : evo τ ρ x = some (.pointer (some ⟨r, 0, none⟩))) (hr' : h[r]? = some (.stringIter ⟨l.toArray⟩ pos))
    (H1 : pos < l.length → K (.tuple #[.bool true, .int .i64 (pos : Int), .int .i32 ((decU l pos).1 : Int)]) (h.setIfInBounds r (.stringIter ⟨l.toArray⟩ (pos + (decU l pos).2))))
    (H0 : ¬ pos < l.length → K (.tuple #[.bool false]) h) : eff P (.next x true) ty τ ρ h K := by
  refine eff_1 (by rfl) hx fun f hf => ?_
  simp only [execOp, Sop.oper, hf]
  refine sr_v (sr_of_hr ?_)
  unfold Instr.next
  simp only [hr_bind']
  refine hr_getIter hr' ?_
  have hsz : (ByteArray.mk l.toArray).size = l.length := by simp [ByteArray.size]
  by_cases hp : pos < l.length
  · simp only [hsz, if_pos hp, hr_bind']
    refine hr_setIter hr' ?_
    exact H1 hp
  · simp only [hsz, if_neg hp]
    exact H0 hp

theorem Ext.iter {h hc : Heap} (H : Ext h hc) {it : Nat} {o : Obj} (hi : h.size ≤ it) : Ext h (hc.setIfInBounds it o) :=
  ⟨by rw [Array.size_setIfInBounds]; exact H.size, fun k hk hn => by
    rw [Array.getElem?_setIfInBounds, if_neg (by omega)]; exact H.same k hk hn⟩
theorem iter_get {hc : Heap} {it : Nat} {o o' : Obj} (hb : hc[it]? = some o') : (hc.setIfInBounds it o)[it]? = some o := by
  have := (Array.getElem?_eq_some_iff.1 hb).1
  simp [this]

/-! ### The text of a number -/
def encU (n : Int) : List UInt8 := (Utf8.encode n).data.toList
theorem cv_rune {s d : TypeId} {k k' : IntKind} {n : Int} (hs : P.underlying s = some (.int k)) (hd : P.underlying d = some .string) : cvE P s d (.int k' n) h = some (str (encU n)) := by
  unfold cvE convert
  rw [rd_bind', rd_underlying hs, Option.bind_some, rd_bind', rd_underlying hd, Option.bind_some]
  rfl
theorem encU_str {n : Int} : Value.string (Utf8.encode n) = str (encU n) := by rw [str_of]; rfl

/-! ### An element of an array behind a pointer -/
def iarT (P : Program) (t : TypeId) (len size : Nat) : Bool := match P.underlying t with
  | some (.array n e) => n == len && (match P.info? e with
    | some i => i.size == size
    | none => false)
  | _ => false
theorem iar_of {t : TypeId} {len size b o : Nat} {k : IntKind} {i : Int} (ht : iarT P t len size = true) (h0 : 0 ≤ i) (h1 : i < len) :
    iaE P t (.pointer (some ⟨b, o, none⟩)) (.int k i) h = some (.pointer (some ⟨b, o + i.toNat * size, none⟩)) := by
  unfold iarT at ht
  cases hu : P.underlying t with
  | none => rw [hu] at ht; cases ht
  | some d =>
    rw [hu] at ht
    cases d <;> simp only [Bool.false_eq_true] at ht
    rename_i n e
    rw [Bool.and_eq_true] at ht
    obtain ⟨h2, ht⟩ := ht
    have h2 : n = len := by simpa using h2
    subst h2
    cases hi : P.info? e with
    | none => rw [hi] at ht; cases ht
    | some inf =>
      rw [hi] at ht
      have hs : inf.size = size := by simpa using ht
      unfold iaE Instr.indexAt
      simp only [asIntOf, Instr.sureAddr, asAddr, rd_bind', rd_pure, Option.bind_some, rd_underlying hu, if_pos (And.intro h0 h1), rd_sizeOf hi, hs, addr_add]
end
end Go.Vc

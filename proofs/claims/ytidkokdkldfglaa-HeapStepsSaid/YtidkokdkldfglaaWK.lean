/- The law HeapSteps: for whatever limits and whatever script the law returns true, and they read behind the call as they read before. Conditions: none. -/
import Derived.Test.YtidkokdkldfglaaK
import Derived.Test.YtidkokdkldfglaaWJ
namespace Go.Proofs.Ytidkokdkldfglaa.heapSteps
open Go.ChangeShapes Go.WideShapes Go.ChangeAt Go.RowKit Go.Vc
open Go.ChangeMaps (open_string shut_string)
set_option maxRecDepth 100000
set_option linter.unusedSimpArgs false
set_option linter.unusedVariables false

theorem fits {k : IntKind} (hk : k.signed = false) {n : Int} (hw : (Lit.int k n).wf = true) : ∃ m : Nat, n = (m : Int) ∧ m < 2 ^ k.bits := by
  simp only [Lit.wf, Bool.and_eq_true, decide_eq_true_eq, IntKind.min, IntKind.max, hk, Bool.false_eq_true, if_false] at hw
  refine ⟨n.toNat, by omega, ?_⟩
  cases k <;> simp only [IntKind.signed, Bool.true_eq_false, reduceCtorEq] at hk <;> simp only [IntKind.bits] at hw ⊢ <;> omega
section
variable {H : Type} {enc : TypeId × Value → H} {W : World} {base : Nat} {spare : Nat → Bool} {held : Bool}
theorem op_open {r : List Value} {dd : DataW H} {q : List MemPlace} {n : Nat} (hl : r.length = 5) (h : DataW.trod enc Try.prog W base spare held n 32 r = some (dd, q)) : ∃ o : OpP, r = o.row := by
  obtain ⟨xs, k, _, hx, _, hlen, hf⟩ := DataW.trod_struct Try.underlying32 h
  have ci : Try.prog.cellsOf 3 = 1 := by kernel_rfl
  have cu : Try.prog.cellsOf 30 = 1 := by kernel_rfl
  match r, hl, xs, hlen with
  | [v0, v1, v2, v3, v4], _, [y0, y1, y2, y3, y4], _ =>
    have h0 := hf 0 _ rfl
    have h1 := hf 1 _ rfl
    have h2 := hf 2 _ rfl
    have h3 := hf 3 _ rfl
    have h4 := hf 4 _ rfl
    simp only [ci, cu, List.drop_succ_cons, List.drop_zero, List.take_succ_cons, List.take_zero, List.getElem?_cons_zero, List.getElem?_cons_succ] at h0 h1 h2 h3 h4
    obtain ⟨n0, e0, _, w0⟩ := DataW.trod_int Try.underlying3 h0
    obtain ⟨n1, e1, _, w1⟩ := DataW.trod_int Try.underlying3 h1
    obtain ⟨n2, e2, _, w2⟩ := DataW.trod_int Try.underlying3 h2
    obtain ⟨n3, e3, _, w3⟩ := DataW.trod_int Try.underlying3 h3
    obtain ⟨n4, e4, _, w4⟩ := DataW.trod_int Try.underlying30 h4
    cases e0; cases e1; cases e2; cases e3; cases e4
    obtain ⟨x, rfl, _⟩ := fits (k := .u64) rfl w4
    exact ⟨⟨n0, n1, n2, n3, x⟩, rfl⟩
theorem ops_open {v : Value} {d : DataW H} {ps : List MemPlace} (h : DataW.Trod enc Try.prog W base spare held 22 v d ps) (hv : v.cells = #[v]) : ∃ ops : List OpP, SlN W.heap 5 v ops.length (ops.flatMap OpP.row) := by
  obtain ⟨fuel, hf⟩ := h
  rw [hv] at hf
  obtain ⟨rows, hr, _, hs, _, _⟩ := rows_open (size := 5) Try.underlying22 (by kernel_rfl) (by decide) hf
  have key : ∀ rows : List (List Value × DataW H), (∀ r ∈ rows, r.1.length = 5 ∧ ∃ n q, DataW.trod enc Try.prog W base spare held n 32 r.1 = some (r.2, q)) → ∃ ops : List OpP, ops.length = rows.length ∧ ops.flatMap OpP.row = rows.flatMap (·.1) := by
    intro rows
    induction rows with
    | nil => intro _; exact ⟨[], rfl, rfl⟩
    | cons r rows ih =>
      intro hr
      obtain ⟨ops, h1, h2⟩ := ih (fun r hr' => hr r (List.mem_cons_of_mem _ hr'))
      obtain ⟨hl, n, q, hn⟩ := hr r List.mem_cons_self
      obtain ⟨o, ho⟩ := op_open hl hn
      exact ⟨o :: ops, by simp [h1], by rw [List.flatMap_cons, List.flatMap_cons, h2, ho]⟩
  obtain ⟨ops, h1, h2⟩ := key rows hr
  exact ⟨ops, by rw [h1, h2]; exact hs⟩
end

theorem lifted (os : Os) (started : os.Started) (H : Type) (enc : TypeId × Value → H) :
    ReturnsInHanded {} Try.checked os 3 .any (Rows.heapStepsSpec.pre6 enc Try.prog Try.f3 Rows.heapStepsRow.domain false) (Rows.heapStepsSpec.post enc Try.prog Try.f3 false true false false) := by
  refine returnsInHanded_of_change (C := Try.checked) own started (by kernel_rfl) Try.func3
    (ChangeSpec.witness6 (enc := enc) (C := Try.checked) false ⟨#[], #[.int .i64 0, .int .i64 0, .slice none 0 0], []⟩ 8 (by kernel_rfl) (by kernel_rfl) (by kernel_rfl) (by kernel_rfl)) ?_
  intro W base args ds gs before hval0 hW hcnd _
  have hval : ∀ (j : Nat) t v, Try.f3.params[j]? = some t → args[j]? = some v → Value.okWide Try.prog W .any base t v := hval0
  have hW' := hW
  obtain ⟨p, q, hA0, hV, rfl, hfz, hnd⟩ := hW
  have hA : DataW.TrodAll enc Try.prog W 0 (fun _ => true) true Try.f3.params.toList args.toList ds p := hA0
  rw [Try.params3] at hA hval
  obtain ⟨v0, vs0, d0, ds0, p0, q0, hargs, rfl, rfl, h0, r0⟩ := trodAll_cons hA
  obtain ⟨v1, vs1, d1, ds1, p1, q1, rfl, rfl, rfl, h1, r1⟩ := trodAll_cons r0
  obtain ⟨v2, vs2, d2, ds2, p2, q2, rfl, rfl, rfl, h2, r2⟩ := trodAll_cons r1
  obtain ⟨rfl, rfl, rfl⟩ := trodAll_nil r2
  obtain rfl : args = #[v0, v1, v2] := by cases args; simp_all
  obtain ⟨rfl, rfl⟩ := trodVars_none hV
  obtain ⟨lim, rfl, rfl, rfl, w0⟩ := open_int Try.underlying3 (hval 0 3 v0 rfl rfl) h0
  obtain ⟨rm, rfl, rfl, rfl, w1⟩ := open_int Try.underlying3 (hval 1 3 v1 rfl rfl) h1
  obtain ⟨a2, l2, c2, rfl⟩ := okWide_slice Try.underlying22 (hval 2 22 v2 rfl rfl)
  obtain ⟨ops, SL⟩ := ops_open h2 rfl
  clear hA0 hval0
  refine (law_calls (heapSteps_any (h0 := W.heap) SL)).mono fun e W' ⟨he, hB⟩ => ⟨_, he, ?_⟩
  exact post_of_law laidOut (by kernel_rfl) rfl Try.underlying4 rfl rfl hW' hB

theorem proved : Rows.HeapStepsSaid :=
  OpenClaim.holds_of_wide 3 Try.f3 rfl rfl rfl rfl rfl rfl rfl ⟨rfl, rfl, rfl, rfl, rfl⟩ rfl rfl rfl rfl rfl (by kernel_rfl) Try.func3 (by kernel_rfl)
    (of_decide_eq_true (by kernel_rfl)) (by unfold Func.isWrapper; first | (rw [if_pos (by decide +kernel)]; kernel_rfl) | (rw [if_neg (by decide +kernel)]; exact ⟨rfl, rfl⟩))
    (fun os started H enc _ => lifted os started H enc)
#print axioms proved
end Go.Proofs.Ytidkokdkldfglaa.heapSteps

/- The law NumTwo: for whatever instruction and whatever two values the law returns true, and they read behind the call as they read before. Conditions: none. -/
import Derived.Test.YtedleaeohbjfnaaK
import Derived.Test.YtedleaeohbjfnaaRI
namespace Go.Proofs.Ytedleaeohbjfnaa.numTwo
open Go.ChangeShapes Go.WideShapes Go.ChangeAt Go.RowKit Go.Vc
open Go.ChangeMaps (open_string shut_string)

theorem fits {k : IntKind} (hk : k.signed = false) {n : Int} (hw : (Lit.int k n).wf = true) : ∃ m : Nat, n = (m : Int) ∧ m < 2 ^ k.bits := by
  simp only [Lit.wf, Bool.and_eq_true, decide_eq_true_eq, IntKind.min, IntKind.max, hk, Bool.false_eq_true, if_false] at hw
  refine ⟨n.toNat, by omega, ?_⟩
  cases k <;> simp only [IntKind.signed, Bool.true_eq_false, reduceCtorEq] at hk <;> simp only [IntKind.bits] at hw ⊢ <;> omega

set_option maxRecDepth 100000 in
theorem lifted (os : Os) (started : os.Started) (H : Type) (enc : TypeId × Value → H) :
    ReturnsInHanded {} Try.checked os 3 .any (Rows.numTwoSpec.pre6 enc Try.prog Try.f3 Rows.numTwoRow.domain false) (Rows.numTwoSpec.post enc Try.prog Try.f3 false true false false) := by
  refine returnsInHanded_of_change (C := Try.checked) own started (by kernel_rfl) Try.func3
    (ChangeSpec.witness6 (enc := enc) (C := Try.checked) false ⟨#[], #[.int .u8 0, .int .u64 0, .int .u64 0], []⟩ 8 (by kernel_rfl) (by kernel_rfl) (by kernel_rfl) (by kernel_rfl)) ?_
  intro W base args ds gs before hval0 hW hcnd _
  have hval : ∀ (j : Nat) t v, Try.f3.params[j]? = some t → args[j]? = some v → Value.okWide Try.prog W .any base t v := hval0
  have hW' := hW
  obtain ⟨p, q, hA0, hV, rfl, hfz, hnd⟩ := hW
  have hA : DataW.TrodAll enc Try.prog W 0 (fun _ => true) true Try.f3.params.toList args.toList ds p := hA0
  rw [Try.params3] at hA hval
  obtain ⟨v0, vs0, d0, ds0, p0, q0, hargs, rfl, rfl, h0, r0⟩ := trodAll_cons hA
  obtain ⟨v1, vs1, d1, ds1, p1, q1, rfl, rfl, rfl, h1, r1⟩ := trodAll_cons r0
  obtain ⟨v2, vs2, d2, ds2, p2, q2, rfl, rfl, rfl, h2, r2⟩ := trodAll_cons r1
  obtain ⟨rfl, rfl, rfl⟩ := trodAll_nil r2
  obtain rfl : args = #[v0, v1, v2] := by cases args; simp_all
  obtain ⟨rfl, rfl⟩ := trodVars_none hV
  obtain ⟨o, rfl, rfl, rfl, w0⟩ := open_int Try.underlying5 (hval 0 5 v0 rfl rfl) h0
  obtain ⟨a, rfl, rfl, rfl, w1⟩ := open_int Try.underlying22 (hval 1 22 v1 rfl rfl) h1
  obtain ⟨b, rfl, rfl, rfl, w2⟩ := open_int Try.underlying22 (hval 2 22 v2 rfl rfl) h2
  clear hA0 hval0
  obtain ⟨o', rfl, _⟩ := fits (k := .u8) rfl w0
  obtain ⟨a', rfl, ha⟩ := fits (k := .u64) rfl w1
  obtain ⟨b', rfl, hb⟩ := fits (k := .u64) rfl w2
  refine (law_calls (numTwo_any (h := W.heap) (o := o') (a := a') (b := b') ha hb)).mono fun e W' ⟨he, hB⟩ => ⟨_, he, ?_⟩
  exact post_of_law laidOut (by kernel_rfl) rfl Try.underlying4 rfl rfl hW' hB

theorem proved : Rows.NumTwoSaid :=
  OpenClaim.holds_of_wide 3 Try.f3 rfl rfl rfl rfl rfl rfl rfl ⟨rfl, rfl, rfl, rfl, rfl⟩ rfl rfl rfl rfl rfl (by kernel_rfl) Try.func3 (by kernel_rfl)
    (of_decide_eq_true (by kernel_rfl)) (by unfold Func.isWrapper; first | (rw [if_pos (by decide +kernel)]; kernel_rfl) | (rw [if_neg (by decide +kernel)]; exact ⟨rfl, rfl⟩))
    (fun os started H enc _ => lifted os started H enc)
#print axioms proved
end Go.Proofs.Ytedleaeohbjfnaa.numTwo

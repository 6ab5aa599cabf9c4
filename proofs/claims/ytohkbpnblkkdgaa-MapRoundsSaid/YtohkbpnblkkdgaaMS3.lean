/- The law MapRounds: for whatever bytes, pool and types the law returns true, and they read behind the call as they read before. Conditions: none. -/
import Derived.Test.YtohkbpnblkkdgaaK
import Derived.Test.YtohkbpnblkkdgaaMJ
import Derived.Test.YtohkbpnblkkdgaaMU
namespace Go.Proofs.Ytohkbpnblkkdgaa.mapRounds
open Go.ChangeShapes Go.WideShapes Go.ChangeAt Go.RowKit Go.Vc
open Go.ChangeMaps (open_string shut_string)

set_option maxRecDepth 100000 in
theorem lifted (os : Os) (started : os.Started) (H : Type) (enc : TypeId × Value → H) :
    ReturnsInHanded {} Try.checked os 4 .any (Rows.mapRoundsSpec.pre6 enc Try.prog Try.f4 Rows.mapRoundsRow.domain false) (Rows.mapRoundsSpec.post enc Try.prog Try.f4 false true false false) := by
  refine returnsInHanded_of_change_sized (C := Try.checked) own started (by kernel_rfl) Try.func4
    (ChangeSpec.witness6 (enc := enc) (C := Try.checked) false ⟨#[], #[.string ByteArray.empty, .slice none 0 0, .slice none 0 0], []⟩ 8 (by kernel_rfl) (by kernel_rfl) (by kernel_rfl) (by kernel_rfl)) ?_
  intro W base args ds gs before hval0 hW hcnd hsz0 _
  have hsz : (DataW.weightsEach Try.prog (Try.f4.params.toList ++ Rows.mapRoundsSpec.plain.varTypes Try.prog) (ds ++ gs)).all (· ≤ reachBytes) = true := hsz0
  have hval : ∀ (j : Nat) t v, Try.f4.params[j]? = some t → args[j]? = some v → Value.okWide Try.prog W .any base t v := hval0
  have hW' := hW
  obtain ⟨p, q, hA0, hV, rfl, hfz, hnd⟩ := hW
  have hA : DataW.TrodAll enc Try.prog W 0 (fun _ => true) true Try.f4.params.toList args.toList ds p := hA0
  rw [Try.params4] at hA hval hsz
  obtain ⟨v0, vs0, d0, ds0, p0, q0, hargs, rfl, rfl, h0, r0⟩ := trodAll_cons hA
  obtain ⟨v1, vs1, d1, ds1, p1, q1, rfl, rfl, rfl, h1, r1⟩ := trodAll_cons r0
  obtain ⟨v2, vs2, d2, ds2, p2, q2, rfl, rfl, rfl, h2, r2⟩ := trodAll_cons r1
  obtain ⟨rfl, rfl, rfl⟩ := trodAll_nil r2
  obtain rfl : args = #[v0, v1, v2] := by cases args; simp_all
  obtain ⟨rfl, rfl⟩ := trodVars_none hV
  obtain ⟨a0, rfl, rfl, rfl, w0⟩ := open_string Try.underlying9 (hval 0 9 v0 rfl rfl) h0
  obtain ⟨a1, l1, c1, rfl⟩ := okWide_slice Try.underlying22 (hval 1 22 v1 rfl rfl)
  obtain ⟨a2, l2, c2, rfl⟩ := okWide_slice Try.underlying23 (hval 2 23 v2 rfl rfl)
  obtain ⟨fu1, hf1⟩ := h1
  obtain ⟨fu2, hf2⟩ := h2
  obtain ⟨cs, u1, u2, u3, u4⟩ := open'.pool_open hf1
  obtain ⟨ty, t1, t2, t3, t4⟩ := open'.types_open hf2
  simp only at u4 t4
  have hb1 : Try.prog.bytesOf 76 = 40 := by kernel_rfl
  have hb2 : Try.prog.bytesOf 25 = 32 := by kernel_rfl
  have s0 : a0.data.toList.length ≤ 140737488355328 := by
    have h := sized_string hsz (j := 0) (t := 9) rfl rfl
    simp only [reachBytes] at h
    omega
  have s1 : cs.length ≤ 140737488355328 := by
    rcases u4 with h | ⟨el, sp, hd, hl⟩
    · omega
    · have h := sized_slice hsz (j := 1) (t := 22) (e := 76) rfl (by rw [hd]; rfl) Try.underlying22
      rw [hb1, hl] at h
      simp only [reachBytes] at h
      omega
  have s2 : ty.length ≤ 140737488355328 := by
    rcases t4 with h | ⟨el, sp, hd, hl⟩
    · omega
    · have h := sized_slice hsz (j := 2) (t := 23) (e := 25) rfl (by rw [hd]; rfl) Try.underlying23
      rw [hb2, hl] at h
      simp only [reachBytes] at h
      omega
  clear hA0 hval0 hsz hsz0
  rw [str_of]
  refine (law_calls (mapRounds_any a0.data.toList cs ty _ _ W.heap s0 u1 u2 u3 s1 t1 t2 t3 s2)).mono fun e W' ⟨he, hB⟩ => ⟨_, he, ?_⟩
  rw [str_of] at hW'
  exact post_of_law laidOut (by kernel_rfl) rfl Try.underlying4 rfl rfl hW' hB

theorem proved : Rows.MapRoundsSaid :=
  OpenClaim.holds_of_wide 4 Try.f4 rfl rfl rfl rfl rfl rfl rfl ⟨rfl, rfl, rfl, rfl, rfl⟩ rfl rfl rfl rfl rfl (by kernel_rfl) Try.func4 (by kernel_rfl)
    (of_decide_eq_true (by kernel_rfl)) (by unfold Func.isWrapper; first | (rw [if_pos (by decide +kernel)]; kernel_rfl) | (rw [if_neg (by decide +kernel)]; exact ⟨rfl, rfl⟩))
    (fun os started H enc _ => lifted os started H enc)
#print axioms proved
end Go.Proofs.Ytohkbpnblkkdgaa.mapRounds

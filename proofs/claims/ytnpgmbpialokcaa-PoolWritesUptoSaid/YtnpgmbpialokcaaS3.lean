/- The law PoolWrites, where what it reads is of bulk at most 1048576: for whatever pool the law returns true, and the pool reads behind the call as it read before. Conditions: that bulk. -/
import Derived.Test.YtnpgmbpialokcaaK
import Derived.Test.YtnpgmbpialokcaaB4
import Derived.JoinedCond
import Derived.ChangeArms
namespace Go.Proofs.Ytnpgmbpialokcaa.poolWrites
open Go.ChangeShapes Go.WideShapes Go.ChangeAt Go.RowKit Go.Vc
open Go.ChangeMaps (open_string shut_string)
set_option maxRecDepth 100000
set_option linter.unusedSimpArgs false
set_option linter.unusedVariables false

theorem part_le {H : Type} {d : DataW H} {l : List (DataW H)} (h : d ∈ l) : Rows.uptoBulk d ≤ Rows.uptoBulkAll l := by
  induction l with
  | nil => cases h
  | cons x r ih =>
    simp only [Rows.uptoBulkAll]
    cases List.mem_cons.1 h with
    | inl e => subst e; omega
    | inr e => have := ih e; omega
theorem one_le {H : Type} (d : DataW H) : 1 ≤ Rows.uptoBulk d := by
  cases d with
  | lit l => cases l <;> simp [Rows.uptoBulk]
  | nil => simp [Rows.uptoBulk]
  | ptr d => simp [Rows.uptoBulk]
  | slice elems spare => simp [Rows.uptoBulk]
  | agg parts => simp [Rows.uptoBulk]
  | iface t d => simp [Rows.uptoBulk]
  | map entries => simp [Rows.uptoBulk]
  | held h => simp [Rows.uptoBulk]
theorem length_le {H : Type} (l : List (DataW H)) : l.length ≤ Rows.uptoBulkAll l := by
  induction l with
  | nil => simp [Rows.uptoBulkAll]
  | cons x r ih => have := one_le x; simp only [Rows.uptoBulkAll, List.length_cons]; omega

section
variable {H : Type} {enc : TypeId × Value → H} {W : World} {base : Nat} {spare : Nat → Bool} {held : Bool}
theorem fits {k : IntKind} (hk : k.signed = false) {n : Int} (hw : (Lit.int k n).wf = true) : ∃ m : Nat, n = (m : Int) ∧ m < 2 ^ k.bits := by
  simp only [Lit.wf, Bool.and_eq_true, decide_eq_true_eq, IntKind.min, IntKind.max, hk, Bool.false_eq_true, if_false] at hw
  refine ⟨n.toNat, by omega, ?_⟩
  cases k <;> simp only [IntKind.signed, Bool.true_eq_false, reduceCtorEq] at hk <;> simp only [IntKind.bits] at hw ⊢ <;> omega
theorem cst_open {r : List Value} {dd : DataW H} {q : List MemPlace} {n : Nat} (hl : r.length = 5) (h : DataW.trod enc Try.prog W base spare held n 37 r = some (dd, q)) :
    ∃ c : Cst, c.Fit ∧ r = c.cells ∧ c.text.length ≤ Rows.uptoBulk dd := by
  obtain ⟨xs, k, _, hx, _, hlen, hf⟩ := DataW.trod_struct Try.underlying37 h
  have c5 : Try.prog.cellsOf 5 = 1 := by kernel_rfl
  have c9 : Try.prog.cellsOf 9 = 1 := by kernel_rfl
  have c35 : Try.prog.cellsOf 35 = 1 := by kernel_rfl
  have c29 : Try.prog.cellsOf 29 = 1 := by kernel_rfl
  match r, hl, xs, hlen with
  | [v0, v1, v2, v3, v4], _, [y0, y1, y2, y3, y4], _ =>
    have h0 := hf 0 _ rfl
    have h1 := hf 1 _ rfl
    have h2 := hf 2 _ rfl
    have h3 := hf 3 _ rfl
    have h4 := hf 4 _ rfl
    simp only [c5, c9, c35, c29, List.drop_succ_cons, List.drop_zero, List.take_succ_cons, List.take_zero, List.getElem?_cons_zero, List.getElem?_cons_succ] at h0 h1 h2 h3 h4
    obtain ⟨n0, e0, rfl, w0⟩ := DataW.trod_int Try.underlying5 h0
    obtain ⟨s1, e1, rfl, _⟩ := DataW.trod_string Try.underlying9 h1
    obtain ⟨n2, e2, rfl, w2⟩ := DataW.trod_int Try.underlying35 h2
    obtain ⟨n3, e3, rfl, w3⟩ := DataW.trod_int Try.underlying29 h3
    obtain ⟨n4, e4, rfl, w4⟩ := DataW.trod_int Try.underlying29 h4
    cases e0; cases e1; cases e2; cases e3; cases e4; cases hx
    obtain ⟨m0, rfl, f0⟩ := fits rfl w0
    obtain ⟨m2, rfl, f2⟩ := fits rfl w2
    obtain ⟨m3, rfl, f3⟩ := fits rfl w3
    obtain ⟨m4, rfl, f4⟩ := fits rfl w4
    refine ⟨⟨m0, s1.data.toList, m2, m3, m4⟩, ⟨f0, f2, f3, f4⟩, rfl, ?_⟩
    simp [Rows.uptoBulk, Rows.uptoBulkAll]
    omega
theorem csts_open {rows : List (List Value × DataW H)} (hr : ∀ r ∈ rows, r.1.length = 5 ∧ ∃ n q, DataW.trod enc Try.prog W base spare held n 37 r.1 = some (r.2, q)) {B : Nat} (hB : ∀ r ∈ rows, Rows.uptoBulk r.2 ≤ B) :
    ∃ cs : List Cst, cs.length = rows.length ∧ flatS cs = rows.flatMap (·.1) ∧ (∀ c ∈ cs, c.Fit) ∧ ∀ c ∈ cs, c.text.length ≤ B := by
  induction rows with
  | nil => exact ⟨[], rfl, rfl, by simp, by simp⟩
  | cons r rows ih =>
    obtain ⟨cs, h1, h2, h3, h4⟩ := ih (fun r hr' => hr r (by simp [hr'])) (fun r hr' => hB r (by simp [hr']))
    obtain ⟨hl, n, q, hn⟩ := hr r (by simp)
    obtain ⟨c, g1, g2, g3⟩ := cst_open hl hn
    have := hB r (by simp)
    refine ⟨c :: cs, by simp [h1], ?_, ?_, ?_⟩
    · rw [List.flatMap_cons, ← h2, g2]; rfl
    · intro x hx
      rcases List.mem_cons.1 hx with rfl | hx
      · exact g1
      · exact h3 x hx
    · intro x hx
      rcases List.mem_cons.1 hx with rfl | hx
      · omega
      · exact h4 x hx
end

theorem contract (H : Type) (enc : TypeId × Value → H) (W : World) (base : Nat) (args : Array Value) (ds gs : List (DataW H)) (before : List MemPlace)
    (hval0 : ∀ (j : Nat) t v, Try.f6.params[j]? = some t → args[j]? = some v → Value.okWide Try.prog W .any base t v)
    (hW : DataW.Whole enc Try.prog Try.f6.params.toList Rows.poolWritesSpec.vars false W args.toList ds gs before) (hk : Rows.uptoSmall H (ds ++ gs) = true) :
    Calls Try.prog 6 args W fun e W' => ∃ v, e = .returned v ∧ Rows.poolWritesSpec.post enc Try.prog Try.f6 false true false false W args v W' := by
  have hval : ∀ (j : Nat) t v, Try.f6.params[j]? = some t → args[j]? = some v → Value.okWide Try.prog W .any base t v := hval0
  have hW' := hW
  obtain ⟨p, q, hA0, hV, rfl, hfz, hnd⟩ := hW
  have hA : DataW.TrodAll enc Try.prog W 0 (fun _ => true) true Try.f6.params.toList args.toList ds p := hA0
  rw [Try.params6] at hA hval
  obtain ⟨v0, vs0, d0, ds0, p0, q0, hargs, rfl, rfl, h0, r0⟩ := trodAll_cons hA
  obtain ⟨rfl, rfl, rfl⟩ := trodAll_nil r0
  obtain rfl : args = #[v0] := by cases args; simp_all
  obtain ⟨rfl, rfl⟩ := trodVars_none hV
  obtain ⟨a, l, c, rfl⟩ := okWide_slice Try.underlying34 (hval 0 34 v0 rfl rfl)
  have hb : Rows.uptoBulk d0 ≤ 1048576 := by
    have h := of_decide_eq_true hk
    simp only [List.append_nil, Rows.uptoBulkAll] at h
    omega
  obtain ⟨fuel, hf⟩ := h0
  obtain ⟨rows, hr, hd, hs, _⟩ := rows_open (size := 5) Try.underlying34 (by kernel_rfl) (by decide) hf
  have hB : rows.length ≤ 1048576 ∧ ∀ r ∈ rows, Rows.uptoBulk r.2 ≤ 1048576 := by
    rcases hd with ⟨_, rfl⟩ | ⟨sp, hd⟩
    · exact ⟨by simp, by simp⟩
    · simp only at hd
      subst hd
      simp only [Rows.uptoBulk] at hb
      have h1 := length_le (rows.map (·.2))
      rw [List.length_map] at h1
      refine ⟨by omega, fun r hr => ?_⟩
      have := part_le (List.mem_map_of_mem (f := fun x : List Value × DataW H => x.2) hr)
      omega
  obtain ⟨cs, e1, e2, hfit, htx⟩ := csts_open hr hB.2
  rw [← e1, ← e2] at hs
  clear hA0 hval0
  exact (law_calls (poolWrites_any cs _ W.heap hs hfit htx (by omega))).mono fun e W' ⟨he, hB⟩ => ⟨_, he, post_of_law laidOut (by kernel_rfl) rfl Try.underlying4 rfl rfl hW' hB⟩

theorem lifted (os : Os) (started : os.Started) (H : Type) (enc : TypeId × Value → H) (F : Stop.Interp) :
    ReturnsInHanded {} Try.checked os 6 .any ((Rows.OpenSpec.upto Rows.poolWritesSpec).pre6 enc Try.prog Try.f6 Rows.poolWritesUptoRow.domain false) (((Rows.OpenSpec.upto Rows.poolWritesSpec).at F).post enc Try.prog Try.f6 false true false false) := by
  refine returnsInHanded_of_cond (C := Try.checked) (s := Rows.OpenSpec.upto Rows.poolWritesSpec) (k := Rows.uptoSmall) rfl own started (by kernel_rfl) Try.func6
    (OpenSpec.witness (enc := enc) (C := Try.checked) (s := Rows.OpenSpec.upto Rows.poolWritesSpec) (k := Rows.uptoSmall) rfl false ⟨#[], #[.slice none 0 0], []⟩ 8 (by kernel_rfl) (by kernel_rfl) (by kernel_rfl)
      (x := ([.nil], [], [])) (by kernel_rfl) rfl (by kernel_rfl)) ?_
  intro W base args ds gs before hval hW _ hk _
  exact contract H enc W base args ds gs before hval hW hk

theorem proved : Rows.PoolWritesUptoSaid :=
  OpenClaim.holds_of_cond 6 Try.f6 rfl rfl rfl rfl rfl rfl rfl ⟨rfl, rfl, rfl, rfl, rfl⟩ rfl rfl rfl rfl rfl (by kernel_rfl) Try.func6 (by kernel_rfl)
    (of_decide_eq_true (by kernel_rfl)) (by unfold Func.isWrapper; first | (rw [if_pos (by decide +kernel)]; kernel_rfl) | (rw [if_neg (by decide +kernel)]; exact ⟨rfl, rfl⟩))
    (fun os started H enc _ F => lifted os started H enc F)
#print axioms proved
end Go.Proofs.Ytnpgmbpialokcaa.poolWrites

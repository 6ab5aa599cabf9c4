/- The law MapWrites, where what it reads is of bulk at most 1048576: for whatever frames, pool and types the law returns true, and they read behind the call as they read before. Conditions: that bulk. -/
import Derived.Test.YthhfbnkmhgadaaaK
import Derived.Test.YthhfbnkmhgadaaaM9
import Derived.JoinedCond
import Derived.ChangeArms
namespace Go.Proofs.Ythhfbnkmhgadaaa.mapWrites
open Go.ChangeShapes Go.WideShapes Go.ChangeAt Go.RowKit Go.Vc
open Go.ChangeMaps (open_string shut_string)
set_option maxRecDepth 100000
set_option linter.unusedSimpArgs false
set_option linter.unusedVariables false

theorem part_le {H : Type} {d : DataW H} {l : List (DataW H)} (h : d ∈ l) : Rows.uptoBulk d ≤ Rows.uptoBulkAll l := by
  induction l with
  | nil => cases h
  | cons x r ih =>
    simp only [Rows.uptoBulkAll]
    cases List.mem_cons.1 h with
    | inl e => subst e; omega
    | inr e => have := ih e; omega
theorem one_le {H : Type} (d : DataW H) : 1 ≤ Rows.uptoBulk d := by
  cases d with
  | lit l => cases l <;> simp [Rows.uptoBulk]
  | nil => simp [Rows.uptoBulk]
  | ptr d => simp [Rows.uptoBulk]
  | slice elems spare => simp [Rows.uptoBulk]
  | agg parts => simp [Rows.uptoBulk]
  | iface t d => simp [Rows.uptoBulk]
  | map entries => simp [Rows.uptoBulk]
  | held h => simp [Rows.uptoBulk]
theorem length_le {H : Type} (l : List (DataW H)) : l.length ≤ Rows.uptoBulkAll l := by
  induction l with
  | nil => simp [Rows.uptoBulkAll]
  | cons x r ih => have := one_le x; simp only [Rows.uptoBulkAll, List.length_cons]; omega

section
variable {H : Type} {enc : TypeId × Value → H} {W : World} {base : Nat} {spare : Nat → Bool} {held : Bool}
theorem fits {k : IntKind} (hk : k.signed = false) {n : Int} (hw : (Lit.int k n).wf = true) : ∃ m : Nat, n = (m : Int) ∧ m < 2 ^ k.bits := by
  simp only [Lit.wf, Bool.and_eq_true, decide_eq_true_eq, IntKind.min, IntKind.max, hk, Bool.false_eq_true, if_false] at hw
  refine ⟨n.toNat, by omega, ?_⟩
  cases k <;> simp only [IntKind.signed, Bool.true_eq_false, reduceCtorEq] at hk <;> simp only [IntKind.bits] at hw ⊢ <;> omega
theorem cst_open {r : List Value} {dd : DataW H} {q : List MemPlace} {n : Nat} (hl : r.length = 5) (h : DataW.trod enc Try.prog W base spare held n 54 r = some (dd, q)) :
    ∃ c : Cst, c.Fit ∧ r = c.cells ∧ c.text.length ≤ Rows.uptoBulk dd := by
  obtain ⟨xs, k, _, hx, _, hlen, hf⟩ := DataW.trod_struct Try.underlying54 h
  have c5 : Try.prog.cellsOf 5 = 1 := by kernel_rfl
  have c9 : Try.prog.cellsOf 9 = 1 := by kernel_rfl
  have c35 : Try.prog.cellsOf 49 = 1 := by kernel_rfl
  have c29 : Try.prog.cellsOf 52 = 1 := by kernel_rfl
  match r, hl, xs, hlen with
  | [v0, v1, v2, v3, v4], _, [y0, y1, y2, y3, y4], _ =>
    have h0 := hf 0 _ rfl
    have h1 := hf 1 _ rfl
    have h2 := hf 2 _ rfl
    have h3 := hf 3 _ rfl
    have h4 := hf 4 _ rfl
    simp only [c5, c9, c35, c29, List.drop_succ_cons, List.drop_zero, List.take_succ_cons, List.take_zero, List.getElem?_cons_zero, List.getElem?_cons_succ] at h0 h1 h2 h3 h4
    obtain ⟨n0, e0, rfl, w0⟩ := DataW.trod_int Try.underlying5 h0
    obtain ⟨s1, e1, rfl, _⟩ := DataW.trod_string Try.underlying9 h1
    obtain ⟨n2, e2, rfl, w2⟩ := DataW.trod_int Try.underlying49 h2
    obtain ⟨n3, e3, rfl, w3⟩ := DataW.trod_int Try.underlying52 h3
    obtain ⟨n4, e4, rfl, w4⟩ := DataW.trod_int Try.underlying52 h4
    cases e0; cases e1; cases e2; cases e3; cases e4; cases hx
    obtain ⟨m0, rfl, f0⟩ := fits rfl w0
    obtain ⟨m2, rfl, f2⟩ := fits rfl w2
    obtain ⟨m3, rfl, f3⟩ := fits rfl w3
    obtain ⟨m4, rfl, f4⟩ := fits rfl w4
    refine ⟨⟨m0, s1.data.toList, m2, m3, m4⟩, ⟨f0, f2, f3, f4⟩, rfl, ?_⟩
    simp [Rows.uptoBulk, Rows.uptoBulkAll]
    omega
theorem csts_open {rows : List (List Value × DataW H)} (hr : ∀ r ∈ rows, r.1.length = 5 ∧ ∃ n q, DataW.trod enc Try.prog W base spare held n 54 r.1 = some (r.2, q)) {B : Nat} (hB : ∀ r ∈ rows, Rows.uptoBulk r.2 ≤ B) :
    ∃ cs : List Cst, cs.length = rows.length ∧ flatS cs = rows.flatMap (·.1) ∧ (∀ c ∈ cs, c.Fit) ∧ ∀ c ∈ cs, c.text.length ≤ B := by
  induction rows with
  | nil => exact ⟨[], rfl, rfl, by simp, by simp⟩
  | cons r rows ih =>
    obtain ⟨cs, h1, h2, h3, h4⟩ := ih (fun r hr' => hr r (by simp [hr'])) (fun r hr' => hB r (by simp [hr']))
    obtain ⟨hl, n, q, hn⟩ := hr r (by simp)
    obtain ⟨c, g1, g2, g3⟩ := cst_open hl hn
    have := hB r (by simp)
    refine ⟨c :: cs, by simp [h1], ?_, ?_, ?_⟩
    · rw [List.flatMap_cons, ← h2, g2]; rfl
    · intro x hx
      rcases List.mem_cons.1 hx with rfl | hx
      · exact g1
      · exact h3 x hx
    · intro x hx
      rcases List.mem_cons.1 hx with rfl | hx
      · omega
      · exact h4 x hx
end


section
variable {H : Type} {enc : TypeId × Value → H} {W : World} {base : Nat} {spare : Nat → Bool} {held : Bool}
theorem fits64 {n : Int} (hw : (Lit.int .i64 n).wf = true) : -9223372036854775808 ≤ n ∧ n < 9223372036854775808 := by
  simp only [Lit.wf, Bool.and_eq_true, decide_eq_true_eq, IntKind.min, IntKind.max, IntKind.signed, IntKind.bits] at hw
  have h1 := hw.1
  have h2 := hw.2
  simp at h1 h2
  omega
/-- A pool. -/
theorem pool_open {v : Value} {x : DataW H × List MemPlace} {fuel : Nat} (hr : DataW.trod enc Try.prog W base spare held fuel 23 [v] = some x) :
    ∃ cs : List Cst, SlN W.heap 5 v cs.length (flatS cs) ∧ capOk v ∧ (∀ c ∈ cs, c.Fit) ∧ cs.length ≤ Rows.uptoBulk x.1 := by
  obtain ⟨rows, hr, hd, hs, _, hc⟩ := rows_open (size := 5) Try.underlying23 (by kernel_rfl) (by decide) hr
  obtain ⟨cs, e1, e2, e3, _⟩ := csts_open (B := Rows.uptoBulkAll (rows.map (·.2))) hr (fun r hr => part_le (List.mem_map_of_mem (f := fun x : List Value × DataW H => x.2) hr))
  refine ⟨cs, by rw [e1, e2]; exact hs, hc, e3, ?_⟩
  rw [e1]
  rcases hd with ⟨_, rfl⟩ | ⟨sp, hd⟩
  · simp
  · rw [hd]
    have := length_le (rows.map (·.2))
    rw [List.length_map] at this
    simp only [Rows.uptoBulk]
    omega
theorem vt_open {r : List Value} {dd : DataW H} {q : List MemPlace} {n : Nat} (hl : r.length = 3) (h : DataW.trod enc Try.prog W base spare held n 35 r = some (dd, q)) :
    ∃ c : VT, c.Fit ∧ r = c.cells := by
  obtain ⟨xs, k, _, hx, _, hlen, hf⟩ := DataW.trod_struct Try.underlying35 h
  have c5 : Try.prog.cellsOf 5 = 1 := by kernel_rfl
  have c9 : Try.prog.cellsOf 9 = 1 := by kernel_rfl
  have c3 : Try.prog.cellsOf 3 = 1 := by kernel_rfl
  match r, hl, xs, hlen with
  | [v0, v1, v2], _, [y0, y1, y2], _ =>
    have h0 := hf 0 _ rfl
    have h1 := hf 1 _ rfl
    have h2 := hf 2 _ rfl
    simp only [c5, c9, c3, List.drop_succ_cons, List.drop_zero, List.take_succ_cons, List.take_zero, List.getElem?_cons_zero, List.getElem?_cons_succ] at h0 h1 h2
    obtain ⟨n0, e0, rfl, w0⟩ := DataW.trod_int Try.underlying5 h0
    obtain ⟨s1, e1, rfl, _⟩ := DataW.trod_string Try.underlying9 h1
    obtain ⟨n2, e2, rfl, w2⟩ := DataW.trod_int Try.underlying3 h2
    cases e0; cases e1; cases e2
    obtain ⟨m0, rfl, f0⟩ := fits rfl w0
    obtain ⟨g1, g2⟩ := fits64 w2
    exact ⟨⟨m0, s1.data.toList, n2⟩, ⟨f0, g1, g2⟩, rfl⟩
theorem types_open {v : Value} {x : DataW H × List MemPlace} {fuel : Nat} (hr : DataW.trod enc Try.prog W base spare held fuel 24 [v] = some x) :
    ∃ l : List VT, SlN W.heap 3 v l.length (flatV l) ∧ capOk v ∧ (∀ c ∈ l, c.Fit) ∧ l.length ≤ Rows.uptoBulk x.1 := by
  obtain ⟨rows, hr, hd, hs, _, hc⟩ := rows_open (size := 3) Try.underlying24 (by kernel_rfl) (by decide) hr
  have key : ∀ rows : List (List Value × DataW H), (∀ r ∈ rows, r.1.length = 3 ∧ ∃ n q, DataW.trod enc Try.prog W base spare held n 35 r.1 = some (r.2, q)) →
      ∃ l : List VT, l.length = rows.length ∧ flatV l = rows.flatMap (·.1) ∧ ∀ c ∈ l, c.Fit := by
    intro rows
    induction rows with
    | nil => intro _; exact ⟨[], rfl, rfl, by simp⟩
    | cons r rows ih =>
      intro hr
      obtain ⟨l, h1, h2, h3⟩ := ih (fun r hr' => hr r (by simp [hr']))
      obtain ⟨hl, n, q, hn⟩ := hr r (by simp)
      obtain ⟨c, g1, g2⟩ := vt_open hl hn
      refine ⟨c :: l, by simp [h1], ?_, ?_⟩
      · rw [List.flatMap_cons, ← h2, g2]; rfl
      · intro x hx
        rcases List.mem_cons.1 hx with rfl | hx
        · exact g1
        · exact h3 x hx
  obtain ⟨l, e1, e2, e3⟩ := key rows hr
  refine ⟨l, by rw [e1, e2]; exact hs, hc, e3, ?_⟩
  rw [e1]
  rcases hd with ⟨_, rfl⟩ | ⟨sp, hd⟩
  · simp
  · rw [hd]
    have := length_le (rows.map (·.2))
    rw [List.length_map] at this
    simp only [Rows.uptoBulk]
    omega
theorem frame_open {r : List Value} {dd : DataW H} {q : List MemPlace} {n : Nat} (hl : r.length = 3) (h : DataW.trod enc Try.prog W base spare held n 41 r = some (dd, q)) :
    ∃ f : Frm, f.Fit ∧ FrC W.heap f r ∧ f.L.length ≤ Rows.uptoBulk dd ∧ f.S.length ≤ Rows.uptoBulk dd := by
  obtain ⟨xs, k, _, hx, _, hlen, hf⟩ := DataW.trod_struct Try.underlying41 h
  have c3 : Try.prog.cellsOf 3 = 1 := by kernel_rfl
  have c24 : Try.prog.cellsOf 24 = 1 := by kernel_rfl
  match r, hl, xs, hlen with
  | [v0, v1, v2], _, [y0, y1, y2], _ =>
    have h0 := hf 0 _ rfl
    have h1 := hf 1 _ rfl
    have h2 := hf 2 _ rfl
    simp only [c24, c3, List.drop_succ_cons, List.drop_zero, List.take_succ_cons, List.take_zero, List.getElem?_cons_zero, List.getElem?_cons_succ] at h0 h1 h2
    obtain ⟨n0, e0, rfl, w0⟩ := DataW.trod_int Try.underlying3 h0
    obtain ⟨L, s1, k1, f1, b1⟩ := types_open h1
    obtain ⟨S, s2, k2, f2, b2⟩ := types_open h2
    cases e0
    obtain ⟨g1, g2⟩ := fits64 w0
    cases hx
    refine ⟨⟨n0, L, S⟩, ⟨g1, g2, f1, f2⟩, ⟨v1, v2, rfl, s1, k1, s2, k2⟩, ?_, ?_⟩
    · simp [Rows.uptoBulk, Rows.uptoBulkAll]; omega
    · simp [Rows.uptoBulk, Rows.uptoBulkAll]; omega
theorem frames_open {v : Value} {x : DataW H × List MemPlace} {fuel : Nat} (hr : DataW.trod enc Try.prog W base spare held fuel 22 [v] = some x) :
    ∃ l : List Frm, FrsC W.heap v l ∧ (∀ f ∈ l, f.Fit) ∧ l.length ≤ Rows.uptoBulk x.1 ∧ ∀ f ∈ l, f.L.length ≤ Rows.uptoBulk x.1 ∧ f.S.length ≤ Rows.uptoBulk x.1 := by
  obtain ⟨rows, hr, hd, hs, _, hc⟩ := rows_open (size := 3) Try.underlying22 (by kernel_rfl) (by decide) hr
  have key : ∀ rows : List (List Value × DataW H), (∀ r ∈ rows, r.1.length = 3 ∧ ∃ n q, DataW.trod enc Try.prog W base spare held n 41 r.1 = some (r.2, q)) →
      ∃ l : List Frm, l.length = rows.length ∧ (∀ f ∈ l, f.Fit) ∧ (∀ i, i < l.length → FrC W.heap (l.getD i ⟨0, [], []⟩) ((rows.map (·.1)).getD i [])) ∧
        ∀ f ∈ l, f.L.length ≤ Rows.uptoBulkAll (rows.map (·.2)) ∧ f.S.length ≤ Rows.uptoBulkAll (rows.map (·.2)) := by
    intro rows
    induction rows with
    | nil => intro _; exact ⟨[], rfl, by simp, by simp, by simp⟩
    | cons r rows ih =>
      intro hr
      obtain ⟨l, h1, h2, h3, h4⟩ := ih (fun r hr' => hr r (by simp [hr']))
      obtain ⟨hl, n, q, hn⟩ := hr r (by simp)
      obtain ⟨f, g1, g2, g3, g4⟩ := frame_open hl hn
      refine ⟨f :: l, by simp [h1], ?_, ?_, ?_⟩
      · intro x hx
        rcases List.mem_cons.1 hx with rfl | hx
        · exact g1
        · exact h2 x hx
      · intro i hi
        cases i with
        | zero => simpa using g2
        | succ i => simpa using h3 i (by simpa using hi)
      · intro x hx
        simp only [List.map_cons, Rows.uptoBulkAll]
        rcases List.mem_cons.1 hx with rfl | hx
        · omega
        · have := h4 x hx; omega
  obtain ⟨l, e1, e2, e3, e4⟩ := key rows hr
  have hfl : rows.flatMap (·.1) = (rows.map (·.1)).flatten := by rw [List.flatMap_def]
  refine ⟨l, ⟨rows.map (·.1), by simp [e1], by rw [e1, ← hfl]; exact hs, e3⟩, e2, ?_, ?_⟩
  · rw [e1]
    rcases hd with ⟨_, rfl⟩ | ⟨sp, hd⟩
    · simp
    · rw [hd]
      have := length_le (rows.map (·.2))
      rw [List.length_map] at this
      simp only [Rows.uptoBulk]
      omega
  · intro f hf
    have := e4 f hf
    rcases hd with ⟨_, rfl⟩ | ⟨sp, hd⟩
    · have : l = [] := List.length_eq_zero_iff.1 e1
      subst this; cases hf
    · rw [hd]
      simp only [Rows.uptoBulk]
      omega
end

theorem contract (H : Type) (enc : TypeId × Value → H) (W : World) (base : Nat) (args : Array Value) (ds gs : List (DataW H)) (before : List MemPlace)
    (hval0 : ∀ (j : Nat) t v, Try.f3.params[j]? = some t → args[j]? = some v → Value.okWide Try.prog W .any base t v)
    (hW : DataW.Whole enc Try.prog Try.f3.params.toList Rows.mapWritesSpec.vars false W args.toList ds gs before) (hk : Rows.uptoSmall H (ds ++ gs) = true) :
    Calls Try.prog 3 args W fun e W' => ∃ v, e = .returned v ∧ Rows.mapWritesSpec.post enc Try.prog Try.f3 false true false false W args v W' := by
  have hval : ∀ (j : Nat) t v, Try.f3.params[j]? = some t → args[j]? = some v → Value.okWide Try.prog W .any base t v := hval0
  have hW' := hW
  obtain ⟨p, q, hA0, hV, rfl, hfz, hnd⟩ := hW
  have hA : DataW.TrodAll enc Try.prog W 0 (fun _ => true) true Try.f3.params.toList args.toList ds p := hA0
  rw [Try.params3] at hA hval
  obtain ⟨v0, vs0, d0, ds0, p0, q0, hargs, rfl, rfl, h0, r0⟩ := trodAll_cons hA
  obtain ⟨v1, vs1, d1, ds1, p1, q1, rfl, rfl, rfl, h1, r1⟩ := trodAll_cons r0
  obtain ⟨v2, vs2, d2, ds2, p2, q2, rfl, rfl, rfl, h2, r2⟩ := trodAll_cons r1
  obtain ⟨rfl, rfl, rfl⟩ := trodAll_nil r2
  obtain rfl : args = #[v0, v1, v2] := by cases args; simp_all
  obtain ⟨rfl, rfl⟩ := trodVars_none hV
  obtain ⟨a0, l0, c0, rfl⟩ := okWide_slice Try.underlying22 (hval 0 22 v0 rfl rfl)
  obtain ⟨a1, l1, c1, rfl⟩ := okWide_slice Try.underlying23 (hval 1 23 v1 rfl rfl)
  obtain ⟨a2, l2, c2, rfl⟩ := okWide_slice Try.underlying24 (hval 2 24 v2 rfl rfl)
  have hb : Rows.uptoBulk d0 ≤ 1048576 ∧ Rows.uptoBulk d1 ≤ 1048576 ∧ Rows.uptoBulk d2 ≤ 1048576 := by
    have h := of_decide_eq_true hk
    simp only [List.append_nil, Rows.uptoBulkAll] at h
    omega
  obtain ⟨fu0, hf0⟩ := h0
  obtain ⟨fu1, hf1⟩ := h1
  obtain ⟨fu2, hf2⟩ := h2
  obtain ⟨fs, t1, t2, t3, t4⟩ := frames_open hf0
  obtain ⟨cs, u1, u2, u3, u4⟩ := pool_open hf1
  obtain ⟨ty, w1, w2, w3, w4⟩ := types_open hf2
  simp only at t3 t4 u4 w4
  clear hA0 hval0
  exact (law_calls (mapWrites_any fs cs ty _ _ _ W.heap t1 t2 (by omega) (fun f hf => by have := t4 f hf; omega) u1 u2 u3 (by omega) w1 w2 (by omega))).mono fun e W' ⟨he, hB⟩ => ⟨_, he, post_of_law laidOut (by kernel_rfl) rfl Try.underlying4 rfl rfl hW' hB⟩

theorem lifted (os : Os) (started : os.Started) (H : Type) (enc : TypeId × Value → H) (F : Stop.Interp) :
    ReturnsInHanded {} Try.checked os 3 .any ((Rows.OpenSpec.upto Rows.mapWritesSpec).pre6 enc Try.prog Try.f3 Rows.mapWritesUptoRow.domain false) (((Rows.OpenSpec.upto Rows.mapWritesSpec).at F).post enc Try.prog Try.f3 false true false false) := by
  refine returnsInHanded_of_cond (C := Try.checked) (s := Rows.OpenSpec.upto Rows.mapWritesSpec) (k := Rows.uptoSmall) rfl own started (by kernel_rfl) Try.func3
    (OpenSpec.witness (enc := enc) (C := Try.checked) (s := Rows.OpenSpec.upto Rows.mapWritesSpec) (k := Rows.uptoSmall) rfl false ⟨#[], #[.slice none 0 0, .slice none 0 0, .slice none 0 0], []⟩ 8 (by kernel_rfl) (by kernel_rfl) (by kernel_rfl)
      (x := ([.nil, .nil, .nil], [], [])) (by kernel_rfl) rfl (by kernel_rfl)) ?_
  intro W base args ds gs before hval hW _ hk _
  exact contract H enc W base args ds gs before hval hW hk

theorem proved : Rows.MapWritesUptoSaid :=
  OpenClaim.holds_of_cond 3 Try.f3 rfl rfl rfl rfl rfl rfl rfl ⟨rfl, rfl, rfl, rfl, rfl⟩ rfl rfl rfl rfl rfl (by kernel_rfl) Try.func3 (by kernel_rfl)
    (of_decide_eq_true (by kernel_rfl)) (by unfold Func.isWrapper; first | (rw [if_pos (by decide +kernel)]; kernel_rfl) | (rw [if_neg (by decide +kernel)]; exact ⟨rfl, rfl⟩))
    (fun os started H enc _ F => lifted os started H enc F)
#print axioms proved
end Go.Proofs.Ythhfbnkmhgadaaa.mapWrites

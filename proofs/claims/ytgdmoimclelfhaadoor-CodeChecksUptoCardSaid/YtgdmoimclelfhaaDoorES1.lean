/- The law CodeChecks, where what it reads is of bulk at most 1048576: for whatever instructions, pool and number of locals the law returns true, and all reads behind the call as it read before. The card is tied: the two tables of unicode/utf8 start as the program's text lays them. Conditions: that bulk. -/
import Derived.Test.YtgdmoimclelfhaaDoorK
import Derived.Test.YtgdmoimclelfhaaDoorEG
import Derived.Test.YtgdmoimclelfhaaDoorCards
import Derived.Test.YtgdmoimclelfhaaDoorTie
import Derived.SevenTiedAt
import Derived.LaidMore
import Derived.Stop.Joined
import Derived.JoinedCond
import Derived.ChangeArms
import Derived.Deep.DeepHandedRow
namespace Go.Proofs.YtgdmoimclelfhaaDoor.codeChecks
open Go.ChangeShapes Go.WideShapes Go.ChangeAt Go.RowKit Go.Vc
open Go.ChangeMaps (open_string shut_string)
set_option maxRecDepth 100000
set_option linter.unusedSimpArgs false
set_option linter.unusedVariables false

theorem part_le {H : Type} {d : DataW H} {l : List (DataW H)} (h : d ∈ l) : Rows.uptoBulk d ≤ Rows.uptoBulkAll l := by
  induction l with
  | nil => cases h
  | cons x r ih =>
    simp only [Rows.uptoBulkAll]
    cases List.mem_cons.1 h with
    | inl e => subst e; omega
    | inr e => have := ih e; omega
theorem one_le {H : Type} (d : DataW H) : 1 ≤ Rows.uptoBulk d := by
  cases d with
  | lit l => cases l <;> simp [Rows.uptoBulk]
  | nil => simp [Rows.uptoBulk]
  | ptr d => simp [Rows.uptoBulk]
  | slice elems spare => simp [Rows.uptoBulk]
  | agg parts => simp [Rows.uptoBulk]
  | iface t d => simp [Rows.uptoBulk]
  | map entries => simp [Rows.uptoBulk]
  | held h => simp [Rows.uptoBulk]
theorem length_le {H : Type} (l : List (DataW H)) : l.length ≤ Rows.uptoBulkAll l := by
  induction l with
  | nil => simp [Rows.uptoBulkAll]
  | cons x r ih => have := one_le x; simp only [Rows.uptoBulkAll, List.length_cons]; omega

section
variable {H : Type} {enc : TypeId × Value → H} {W : World} {base : Nat} {spare : Nat → Bool} {held : Bool}
theorem fits {k : IntKind} (hk : k.signed = false) {n : Int} (hw : (Lit.int k n).wf = true) : ∃ m : Nat, n = (m : Int) ∧ m < 2 ^ k.bits := by
  simp only [Lit.wf, Bool.and_eq_true, decide_eq_true_eq, IntKind.min, IntKind.max, hk, Bool.false_eq_true, if_false] at hw
  refine ⟨n.toNat, by omega, ?_⟩
  cases k <;> simp only [IntKind.signed, Bool.true_eq_false, reduceCtorEq] at hk <;> simp only [IntKind.bits] at hw ⊢ <;> omega
theorem fits64 {n : Int} (hw : (Lit.int .i64 n).wf = true) : -9223372036854775808 ≤ n ∧ n < 9223372036854775808 := by
  simp only [Lit.wf, Bool.and_eq_true, decide_eq_true_eq, IntKind.min, IntKind.max, IntKind.signed, IntKind.bits] at hw
  have h1 := hw.1
  have h2 := hw.2
  simp at h1 h2
  omega
/-- A slice of numbers. -/
theorem nums_open {v : Value} {x : DataW H × List MemPlace} {fuel : Nat} (hr : DataW.trod enc Tryd.prog W base spare held fuel 35 [v] = some x) :
    ∃ l : List Int, SlN W.heap 1 v l.length (intsV l) ∧ capOk v ∧ (∀ n ∈ l, -9223372036854775808 ≤ n ∧ n < 9223372036854775808) ∧ l.length ≤ Rows.uptoBulk x.1 := by
  obtain ⟨rows, hr, hd, hs, _, hc⟩ := rows_open (size := 1) Tryd.underlying35 (by kernel_rfl) (by decide) hr
  have key : ∀ rows : List (List Value × DataW H), (∀ r ∈ rows, r.1.length = 1 ∧ ∃ n q, DataW.trod enc Tryd.prog W base spare held n 3 r.1 = some (r.2, q)) →
      ∃ l : List Int, l.length = rows.length ∧ intsV l = rows.flatMap (·.1) ∧ (∀ n ∈ l, -9223372036854775808 ≤ n ∧ n < 9223372036854775808) := by
    intro rows
    induction rows with
    | nil => intro _; exact ⟨[], rfl, rfl, by simp⟩
    | cons r rows ih =>
      intro hr
      obtain ⟨l, h1, h2, h3⟩ := ih (fun r hr' => hr r (by simp [hr']))
      obtain ⟨hl, n, q, hn⟩ := hr r (by simp)
      obtain ⟨r1, r2⟩ := r
      obtain ⟨n0, e0, e1, w0⟩ := DataW.trod_int Tryd.underlying3 hn
      simp only at e0
      refine ⟨n0 :: l, by simp [h1], ?_, ?_⟩
      · rw [List.flatMap_cons, ← h2]
        simp only [e0]; rfl
      · intro y hy
        rcases List.mem_cons.1 hy with rfl | hy
        · exact fits64 w0
        · exact h3 y hy
  obtain ⟨l, e1, e2, e3⟩ := key rows hr
  refine ⟨l, by rw [e1, e2]; exact hs, hc, e3, ?_⟩
  rw [e1]
  rcases hd with ⟨_, rfl⟩ | ⟨sp, hd⟩
  · simp
  · rw [hd]
    have := length_le (rows.map (·.2))
    rw [List.length_map] at this
    simp only [Rows.uptoBulk]
    omega
theorem ins_open {r : List Value} {dd : DataW H} {q : List MemPlace} {n : Nat} (hl : r.length = 8) (h : DataW.trod enc Tryd.prog W base spare held n 37 r = some (dd, q)) :
    ∃ x : In, x.Fit ∧ InC W.heap x r ∧ x.keys.length ≤ Rows.uptoBulk dd ∧ x.tgts.length ≤ Rows.uptoBulk dd := by
  obtain ⟨xs, k, _, hx, _, hlen, hf⟩ := DataW.trod_struct Tryd.underlying37 h
  have c1 : Tryd.prog.cellsOf 3 = 1 := by kernel_rfl
  have c2 : Tryd.prog.cellsOf 5 = 1 := by kernel_rfl
  have c3 : Tryd.prog.cellsOf 4 = 1 := by kernel_rfl
  have c4 : Tryd.prog.cellsOf 35 = 1 := by kernel_rfl
  match r, hl, xs, hlen with
  | [v0, v1, v2, v3, v4, v5, v6, v7], _, [y0, y1, y2, y3, y4, y5, y6, y7], _ =>
    have h0 := hf 0 _ rfl
    have h1 := hf 1 _ rfl
    have h2 := hf 2 _ rfl
    have h3 := hf 3 _ rfl
    have h4 := hf 4 _ rfl
    have h5 := hf 5 _ rfl
    have h6 := hf 6 _ rfl
    have h7 := hf 7 _ rfl
    simp only [c1, c2, c3, c4, List.drop_succ_cons, List.drop_zero, List.take_succ_cons, List.take_zero, List.getElem?_cons_zero, List.getElem?_cons_succ] at h0 h1 h2 h3 h4 h5 h6 h7
    obtain ⟨n0, e0, rfl, w0⟩ := DataW.trod_int Tryd.underlying3 h0
    obtain ⟨n1, e1, rfl, w1⟩ := DataW.trod_int Tryd.underlying5 h1
    obtain ⟨b2, e2, rfl⟩ := DataW.trod_bool Tryd.underlying4 h2
    obtain ⟨n3, e3, rfl, w3⟩ := DataW.trod_int Tryd.underlying3 h3
    obtain ⟨n4, e4, rfl, w4⟩ := DataW.trod_int Tryd.underlying3 h4
    obtain ⟨n5, e5, rfl, w5⟩ := DataW.trod_int Tryd.underlying3 h5
    obtain ⟨L, s1, k1, f1, b1⟩ := nums_open h6
    obtain ⟨S, s2, k2, f2, g2⟩ := nums_open h7
    cases e0; cases e1; cases e2; cases e3; cases e4; cases e5
    obtain ⟨m1, rfl, u1⟩ := fits rfl w1
    have g0 := fits64 w0
    cases hx
    refine ⟨⟨n0, m1, b2, n3, n4, n5, L, S⟩, ⟨u1, g0.1, g0.2⟩, ⟨v6, v7, rfl, s1, k1, s2, k2⟩, ?_, ?_⟩
    · simp [Rows.uptoBulk, Rows.uptoBulkAll]; omega
    · simp [Rows.uptoBulk, Rows.uptoBulkAll]; omega
theorem inss_open {v : Value} {x : DataW H × List MemPlace} {fuel : Nat} (hr : DataW.trod enc Tryd.prog W base spare held fuel 22 [v] = some x) :
    ∃ l : List In, InsC W.heap v l ∧ (∀ f ∈ l, f.Fit) ∧ l.length ≤ Rows.uptoBulk x.1 ∧ ∀ f ∈ l, f.keys.length ≤ Rows.uptoBulk x.1 ∧ f.tgts.length ≤ Rows.uptoBulk x.1 := by
  obtain ⟨rows, hr, hd, hs, _, hc⟩ := rows_open (size := 8) Tryd.underlying22 (by kernel_rfl) (by decide) hr
  have key : ∀ rows : List (List Value × DataW H), (∀ r ∈ rows, r.1.length = 8 ∧ ∃ n q, DataW.trod enc Tryd.prog W base spare held n 37 r.1 = some (r.2, q)) →
      ∃ l : List In, l.length = rows.length ∧ (∀ f ∈ l, f.Fit) ∧ (∀ i, i < l.length → InC W.heap (l.getD i in0) ((rows.map (·.1)).getD i [])) ∧
        ∀ f ∈ l, f.keys.length ≤ Rows.uptoBulkAll (rows.map (·.2)) ∧ f.tgts.length ≤ Rows.uptoBulkAll (rows.map (·.2)) := by
    intro rows
    induction rows with
    | nil => intro _; exact ⟨[], rfl, by simp, by simp, by simp⟩
    | cons r rows ih =>
      intro hr
      obtain ⟨l, h1, h2, h3, h4⟩ := ih (fun r hr' => hr r (by simp [hr']))
      obtain ⟨hl, n, q, hn⟩ := hr r (by simp)
      obtain ⟨f, g1, g2, g3, g4⟩ := ins_open hl hn
      refine ⟨f :: l, by simp [h1], ?_, ?_, ?_⟩
      · intro x hx
        rcases List.mem_cons.1 hx with rfl | hx
        · exact g1
        · exact h2 x hx
      · intro i hi
        cases i with
        | zero => simpa using g2
        | succ i => simpa using h3 i (by simpa using hi)
      · intro x hx
        simp only [List.map_cons, Rows.uptoBulkAll]
        rcases List.mem_cons.1 hx with rfl | hx
        · omega
        · have := h4 x hx; omega
  obtain ⟨l, e1, e2, e3, e4⟩ := key rows hr
  have hfl : rows.flatMap (·.1) = (rows.map (·.1)).flatten := by rw [List.flatMap_def]
  refine ⟨l, ⟨rows.map (·.1), by simp [e1], by rw [e1, ← hfl]; exact hs, e3⟩, e2, ?_, ?_⟩
  · rw [e1]
    rcases hd with ⟨_, rfl⟩ | ⟨sp, hd⟩
    · simp
    · rw [hd]
      have := length_le (rows.map (·.2))
      rw [List.length_map] at this
      simp only [Rows.uptoBulk]
      omega
  · intro f hf
    have := e4 f hf
    rcases hd with ⟨_, rfl⟩ | ⟨sp, hd⟩
    · have : l = [] := List.length_eq_zero_iff.1 e1
      subst this; cases hf
    · rw [hd]
      simp only [Rows.uptoBulk]
      omega
theorem cst_open {r : List Value} {dd : DataW H} {q : List MemPlace} {n : Nat} (hl : r.length = 5) (h : DataW.trod enc Tryd.prog W base spare held n 32 r = some (dd, q)) :
    ∃ c : Cst, c.Fit ∧ r = c.cells ∧ c.text.length ≤ Rows.uptoBulk dd := by
  obtain ⟨xs, k, _, hx, _, hlen, hf⟩ := DataW.trod_struct Tryd.underlying32 h
  have c5 : Tryd.prog.cellsOf 5 = 1 := by kernel_rfl
  have c9 : Tryd.prog.cellsOf 9 = 1 := by kernel_rfl
  have c35 : Tryd.prog.cellsOf 29 = 1 := by kernel_rfl
  have c29 : Tryd.prog.cellsOf 30 = 1 := by kernel_rfl
  match r, hl, xs, hlen with
  | [v0, v1, v2, v3, v4], _, [y0, y1, y2, y3, y4], _ =>
    have h0 := hf 0 _ rfl
    have h1 := hf 1 _ rfl
    have h2 := hf 2 _ rfl
    have h3 := hf 3 _ rfl
    have h4 := hf 4 _ rfl
    simp only [c5, c9, c35, c29, List.drop_succ_cons, List.drop_zero, List.take_succ_cons, List.take_zero, List.getElem?_cons_zero, List.getElem?_cons_succ] at h0 h1 h2 h3 h4
    obtain ⟨n0, e0, rfl, w0⟩ := DataW.trod_int Tryd.underlying5 h0
    obtain ⟨s1, e1, rfl, _⟩ := DataW.trod_string Tryd.underlying9 h1
    obtain ⟨n2, e2, rfl, w2⟩ := DataW.trod_int Tryd.underlying29 h2
    obtain ⟨n3, e3, rfl, w3⟩ := DataW.trod_int Tryd.underlying30 h3
    obtain ⟨n4, e4, rfl, w4⟩ := DataW.trod_int Tryd.underlying30 h4
    cases e0; cases e1; cases e2; cases e3; cases e4; cases hx
    obtain ⟨m0, rfl, f0⟩ := fits rfl w0
    obtain ⟨m2, rfl, f2⟩ := fits rfl w2
    obtain ⟨m3, rfl, f3⟩ := fits rfl w3
    obtain ⟨m4, rfl, f4⟩ := fits rfl w4
    refine ⟨⟨m0, s1.data.toList, m2, m3, m4⟩, ⟨f0, f2, f3, f4⟩, rfl, ?_⟩
    simp [Rows.uptoBulk, Rows.uptoBulkAll]
    omega
theorem csts_open {rows : List (List Value × DataW H)} (hr : ∀ r ∈ rows, r.1.length = 5 ∧ ∃ n q, DataW.trod enc Tryd.prog W base spare held n 32 r.1 = some (r.2, q)) {B : Nat} (hB : ∀ r ∈ rows, Rows.uptoBulk r.2 ≤ B) :
    ∃ cs : List Cst, cs.length = rows.length ∧ flatS cs = rows.flatMap (·.1) ∧ (∀ c ∈ cs, c.Fit) ∧ ∀ c ∈ cs, c.text.length ≤ B := by
  induction rows with
  | nil => exact ⟨[], rfl, rfl, by simp, by simp⟩
  | cons r rows ih =>
    obtain ⟨cs, h1, h2, h3, h4⟩ := ih (fun r hr' => hr r (by simp [hr'])) (fun r hr' => hB r (by simp [hr']))
    obtain ⟨hl, n, q, hn⟩ := hr r (by simp)
    obtain ⟨c, g1, g2, g3⟩ := cst_open hl hn
    have := hB r (by simp)
    refine ⟨c :: cs, by simp [h1], ?_, ?_, ?_⟩
    · rw [List.flatMap_cons, ← h2, g2]; rfl
    · intro x hx
      rcases List.mem_cons.1 hx with rfl | hx
      · exact g1
      · exact h3 x hx
    · intro x hx
      rcases List.mem_cons.1 hx with rfl | hx
      · omega
      · exact h4 x hx
/-- A pool. -/
theorem pool_open {v : Value} {x : DataW H × List MemPlace} {fuel : Nat} (hr : DataW.trod enc Tryd.prog W base spare held fuel 23 [v] = some x) :
    ∃ cs : List Cst, SlN W.heap 5 v cs.length (flatS cs) ∧ capOk v ∧ (∀ c ∈ cs, c.Fit) ∧ cs.length ≤ Rows.uptoBulk x.1 ∧ ∀ c ∈ cs, c.text.length ≤ Rows.uptoBulk x.1 := by
  obtain ⟨rows, hr, hd, hs, _, hc⟩ := rows_open (size := 5) Tryd.underlying23 (by kernel_rfl) (by decide) hr
  obtain ⟨cs, e1, e2, e3, e4⟩ := csts_open (B := Rows.uptoBulkAll (rows.map (·.2))) hr (fun r hr => part_le (List.mem_map_of_mem (f := fun x : List Value × DataW H => x.2) hr))
  refine ⟨cs, by rw [e1, e2]; exact hs, hc, e3, ?_, ?_⟩
  rotate_left
  · intro c hcm
    have := e4 c hcm
    rcases hd with ⟨_, rfl⟩ | ⟨sp, hd⟩
    · rw [List.length_eq_zero_iff.1 e1] at hcm; cases hcm
    · rw [hd]; simp only [Rows.uptoBulk]; omega
  rw [e1]
  rcases hd with ⟨_, rfl⟩ | ⟨sp, hd⟩
  · simp
  · rw [hd]
    have := length_le (rows.map (·.2))
    rw [List.length_map] at this
    simp only [Rows.uptoBulk]
    omega
end

theorem contract (H : Type) (enc : TypeId × Value → H) (W : World) (base : Nat) (args : Array Value) (ds gs : List (DataW H)) (before : List MemPlace)
    (hval0 : ∀ (j : Nat) t v, Tryd.f3.params[j]? = some t → args[j]? = some v → Value.okWide Tryd.prog W .any base t v)
    (hW : DataW.Whole enc Tryd.prog Tryd.f3.params.toList Rows.codeChecksSpec.vars false W args.toList ds gs before) (hk : Rows.uptoSmall H (ds ++ gs) = true) :
    Calls Tryd.prog 3 args W fun e W' => ∃ v, e = .returned v ∧ Rows.codeChecksSpec.post enc Tryd.prog Tryd.f3 false true false false W args v W' := by
  have hval : ∀ (j : Nat) t v, Tryd.f3.params[j]? = some t → args[j]? = some v → Value.okWide Tryd.prog W .any base t v := hval0
  have hW' := hW
  obtain ⟨p, q, hA0, hV, rfl, hfz, hnd⟩ := hW
  have hA : DataW.TrodAll enc Tryd.prog W 0 (fun _ => true) true Tryd.f3.params.toList args.toList ds p := hA0
  rw [Tryd.params3] at hA hval
  obtain ⟨v0, vs0, d0, ds0, p0, q0, hargs, rfl, rfl, h0, r0⟩ := trodAll_cons hA
  obtain ⟨v1, vs1, d1, ds1, p1, q1, rfl, rfl, rfl, h1, r1⟩ := trodAll_cons r0
  obtain ⟨v2, vs2, d2, ds2, p2, q2, rfl, rfl, rfl, h2, r2⟩ := trodAll_cons r1
  obtain ⟨rfl, rfl, rfl⟩ := trodAll_nil r2
  obtain rfl : args = #[v0, v1, v2] := by cases args; simp_all
  obtain ⟨rfl, rfl⟩ := trodVars_none hV
  obtain ⟨a0, l0, c0, rfl⟩ := okWide_slice Tryd.underlying22 (hval 0 22 v0 rfl rfl)
  obtain ⟨a1, l1, c1, rfl⟩ := okWide_slice Tryd.underlying23 (hval 1 23 v1 rfl rfl)
  obtain ⟨n, rfl, rfl, rfl, hwn⟩ := open_int Tryd.underlying3 (hval 2 3 v2 rfl rfl) h2
  have hb : Rows.uptoBulk d0 ≤ 1048576 ∧ Rows.uptoBulk d1 ≤ 1048576 := by
    have h := of_decide_eq_true hk
    simp only [List.append_nil, Rows.uptoBulkAll] at h
    omega
  obtain ⟨fu0, hf0⟩ := h0
  obtain ⟨fu1, hf1⟩ := h1
  obtain ⟨fs, t1, t2, t3, t4⟩ := inss_open hf0
  obtain ⟨cs, u1, _, u3, u4, u5⟩ := pool_open hf1
  simp only at t3 t4 u4 u5
  clear hA0 hval0
  exact (law_calls (codeChecks_any fs _ W.heap t1 t2 (by omega) (fun f hf => by have := t4 f hf; omega) n (fits64 hwn).2 (by omega) u3 (fun c hc => by have := u5 c hc; omega) u1)).mono fun e W' ⟨he, hB⟩ => ⟨_, he, post_of_law laidOut (by kernel_rfl) rfl Tryd.underlying4 rfl rfl hW' hB⟩

theorem lifted (os : Os) (started : os.Started) (H : Type) (enc : TypeId × Value → H) (F : Stop.Interp) :
    ReturnsInHanded {} Tryd.checked os 3 .any ((Rows.OpenSpec.upto Rows.codeChecksSpec).preRow enc Tryd.prog Tryd.f3 Rows.codeChecksUptoRow.domain false Rows.codeChecksUptoRow.laid) (((Rows.OpenSpec.upto Rows.codeChecksSpec).at F).post enc Tryd.prog Tryd.f3 false true false false) := by
  obtain ⟨w0, ew⟩ : ∃ w0 : World, w0 = { World.doorLaid Tryd.prog 400 os with heap := (World.doorLaid Tryd.prog 400 os).heap.modify 1 fun o => match o with
        | .cells _ t z => .cells ((Pinned.utf8FirstZ.map fun n : Nat => Value.int .u8 (n : Int)).toArray) t z
        | o => o } := ⟨_, rfl⟩
  have hmet : laidMet Tryd.prog Rows.codeChecksUptoRow.laid (w0.forCall (fun _ _ => 0) ⟨#[], #[.slice none 0 0, .slice none 0 0, .int .i64 0], []⟩).memory := by
    subst ew
    exact laidMet_of_run' 8 (by kernel_rfl) (by kernel_rfl)
  have hx : ∃ places, DataW.whole enc Tryd.prog (w0.forCall (fun _ _ => 0) ⟨#[], #[.slice none 0 0, .slice none 0 0, .int .i64 0], []⟩).memory Tryd.f3.params.toList Rows.codeChecksSpec.vars false #[Value.slice none 0 0, .slice none 0 0, .int .i64 0].toList 8 = some ([.nil, .nil, .lit (.int .i64 0)], [], places) := by
    subst ew
    exact ⟨[], by kernel_rfl⟩
  obtain ⟨places, hx⟩ := hx
  refine returnsInHanded_of_row (C := Tryd.checked) (s := Rows.OpenSpec.upto Rows.codeChecksSpec) own started (by kernel_rfl) Tryd.func3
    (witness_row_at (enc := enc) (C := Tryd.checked) false w0 #[.slice none 0 0, .slice none 0 0, .int .i64 0] (by subst ew; rfl) (by subst ew; kernel_rfl) (by subst ew; kernel_rfl) (by subst ew; kernel_rfl)
      (OpenSpec.preRow_of_cond 8 hx (by kernel_rfl) (fun k hk => by cases hk; kernel_rfl) (by subst ew; kernel_rfl) hmet)) ?_
  intro W base args ds gs before hval hW _ hcond _ hL _ _
  exact contract H enc W base args ds gs before hval hW (hcond _ rfl)

theorem row : Rows.CodeChecksUptoSaid :=
  OpenClaim.holds_of_cond 3 Tryd.f3 rfl rfl rfl rfl rfl rfl rfl ⟨rfl, rfl, rfl, rfl, rfl⟩ rfl rfl rfl rfl rfl (by kernel_rfl) Tryd.func3 (by kernel_rfl)
    (of_decide_eq_true (by kernel_rfl)) (by unfold Func.isWrapper; first | (rw [if_pos (by decide +kernel)]; kernel_rfl) | (rw [if_neg (by decide +kernel)]; exact ⟨rfl, rfl⟩))
    (fun os started H enc _ F => by rw [OpenClaim.pre_eq_preRow]; exact lifted os started H enc F)
theorem plain (f : FuncId) (fn : Func) (hf : Tryd.pinned.checked.prog.funcNamed Tryd.f3.name = some f) (hfn : Tryd.pinned.checked.prog.funcs[f]? = some fn) :
    false = Tryd.pinned.checked.prog.looks [] ∧ ∀ (j : Nat) t, fn.params[j]? = some t → Tryd.pinned.checked.prog.wantsStandIn t = false := by
  obtain rfl : f = 3 := Option.some.inj ((show Tryd.prog.funcNamed Tryd.f3.name = some 3 by kernel_rfl).symm.trans hf) |>.symm
  obtain rfl : fn = Tryd.f3 := (Option.some.inj (Tryd.func3.symm.trans hfn)).symm
  refine ⟨by kernel_rfl, fun j t ht => ?_⟩
  rw [Tryd.params3] at ht
  have hm : t ∈ [22, 23, 3] := by simpa using Array.mem_of_getElem? ht
  have hall : ([22, 23, 3].all fun u => !Tryd.prog.wantsStandIn u) = true := by kernel_rfl
  exact (show Tryd.prog.wantsStandIn t = false by simpa using List.all_eq_true.1 hall t hm)
theorem proved : Rows.CodeChecksUptoCardSaid :=
  Claim7.holds_tied_plain_at .later [] _ _ _ _ row (fun _ h => by cases h) (by kernel_rfl) (fun _ h => by cases h) codeChecksUpto_row_tie rfl ⟨rfl, rfl⟩ (by kernel_rfl) rfl plain (by kernel_rfl)
#print axioms proved
end Go.Proofs.YtgdmoimclelfhaaDoor.codeChecks

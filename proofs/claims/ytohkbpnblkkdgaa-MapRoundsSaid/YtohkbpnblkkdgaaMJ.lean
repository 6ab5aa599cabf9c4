/- Arguments opened: pools, lists of types. No condition. -/
import Derived.Test.YtohkbpnblkkdgaaK
import Derived.Test.YtohkbpnblkkdgaaMV
import Derived.JoinedCond
import Derived.ChangeArms
import Derived.SizedLaws
namespace Go.Proofs.Ytohkbpnblkkdgaa.open'
open Go.ChangeShapes Go.WideShapes Go.ChangeAt Go.RowKit Go.Vc
open Go.ChangeMaps (open_string shut_string)
set_option maxRecDepth 100000
set_option linter.unusedSimpArgs false
set_option linter.unusedVariables false

theorem fits {k : IntKind} (hk : k.signed = false) {n : Int} (hw : (Lit.int k n).wf = true) : ∃ m : Nat, n = (m : Int) ∧ m < 2 ^ k.bits := by
  simp only [Lit.wf, Bool.and_eq_true, decide_eq_true_eq, IntKind.min, IntKind.max, hk, Bool.false_eq_true, if_false] at hw
  refine ⟨n.toNat, by omega, ?_⟩
  cases k <;> simp only [IntKind.signed, Bool.true_eq_false, reduceCtorEq] at hk <;> simp only [IntKind.bits] at hw ⊢ <;> omega
section
variable {H : Type} {enc : TypeId × Value → H} {W : World} {base : Nat} {spare : Nat → Bool} {held : Bool}
theorem cst_open {r : List Value} {dd : DataW H} {q : List MemPlace} {n : Nat} (hl : r.length = 5) (h : DataW.trod enc Try.prog W base spare held n 76 r = some (dd, q)) :
    ∃ c : Cst, c.Fit ∧ r = c.cells := by
  obtain ⟨xs, k, _, hx, _, hlen, hf⟩ := DataW.trod_struct Try.underlying76 h
  have c5 : Try.prog.cellsOf 5 = 1 := by kernel_rfl
  have c9 : Try.prog.cellsOf 9 = 1 := by kernel_rfl
  have c35 : Try.prog.cellsOf 74 = 1 := by kernel_rfl
  have c29 : Try.prog.cellsOf 38 = 1 := by kernel_rfl
  match r, hl, xs, hlen with
  | [v0, v1, v2, v3, v4], _, [y0, y1, y2, y3, y4], _ =>
    have h0 := hf 0 _ rfl
    have h1 := hf 1 _ rfl
    have h2 := hf 2 _ rfl
    have h3 := hf 3 _ rfl
    have h4 := hf 4 _ rfl
    simp only [c5, c9, c35, c29, List.drop_succ_cons, List.drop_zero, List.take_succ_cons, List.take_zero, List.getElem?_cons_zero, List.getElem?_cons_succ] at h0 h1 h2 h3 h4
    obtain ⟨n0, e0, rfl, w0⟩ := DataW.trod_int Try.underlying5 h0
    obtain ⟨s1, e1, rfl, _⟩ := DataW.trod_string Try.underlying9 h1
    obtain ⟨n2, e2, rfl, w2⟩ := DataW.trod_int Try.underlying74 h2
    obtain ⟨n3, e3, rfl, w3⟩ := DataW.trod_int Try.underlying38 h3
    obtain ⟨n4, e4, rfl, w4⟩ := DataW.trod_int Try.underlying38 h4
    cases e0; cases e1; cases e2; cases e3; cases e4; cases hx
    obtain ⟨m0, rfl, f0⟩ := fits rfl w0
    obtain ⟨m2, rfl, f2⟩ := fits rfl w2
    obtain ⟨m3, rfl, f3⟩ := fits rfl w3
    obtain ⟨m4, rfl, f4⟩ := fits rfl w4
    exact ⟨⟨m0, s1.data.toList, m2, m3, m4⟩, ⟨f0, f2, f3, f4⟩, rfl⟩
theorem csts_open {rows : List (List Value × DataW H)} (hr : ∀ r ∈ rows, r.1.length = 5 ∧ ∃ n q, DataW.trod enc Try.prog W base spare held n 76 r.1 = some (r.2, q)) :
    ∃ cs : List Cst, cs.length = rows.length ∧ flatS cs = rows.flatMap (·.1) ∧ ∀ c ∈ cs, c.Fit := by
  induction rows with
  | nil => exact ⟨[], rfl, rfl, by simp⟩
  | cons r rows ih =>
    obtain ⟨cs, h1, h2, h3⟩ := ih (fun r hr' => hr r (by simp [hr']))
    obtain ⟨hl, n, q, hn⟩ := hr r (by simp)
    obtain ⟨c, g1, g2⟩ := cst_open hl hn
    refine ⟨c :: cs, by simp [h1], ?_, ?_⟩
    · rw [List.flatMap_cons, ← h2, g2]; rfl
    · intro x hx
      rcases List.mem_cons.1 hx with rfl | hx
      · exact g1
      · exact h3 x hx
theorem fits64 {n : Int} (hw : (Lit.int .i64 n).wf = true) : -9223372036854775808 ≤ n ∧ n < 9223372036854775808 := by
  simp only [Lit.wf, Bool.and_eq_true, decide_eq_true_eq, IntKind.min, IntKind.max, IntKind.signed, IntKind.bits] at hw
  have h1 := hw.1
  have h2 := hw.2
  simp at h1 h2
  omega
/-- A pool. -/
theorem pool_open {v : Value} {x : DataW H × List MemPlace} {fuel : Nat} (hr : DataW.trod enc Try.prog W base spare held fuel 22 [v] = some x) :
    ∃ cs : List Cst, SlN W.heap 5 v cs.length (flatS cs) ∧ capOk v ∧ (∀ c ∈ cs, c.Fit) ∧ (cs.length = 0 ∨ ∃ el sp, x.1 = .slice el sp ∧ el.length = cs.length) := by
  obtain ⟨rows, hr, hd, hs, _, hc⟩ := rows_open (size := 5) Try.underlying22 (by kernel_rfl) (by decide) hr
  obtain ⟨cs, e1, e2, e3⟩ := csts_open hr
  refine ⟨cs, by rw [e1, e2]; exact hs, hc, e3, ?_⟩
  rcases hd with ⟨_, rfl⟩ | ⟨sp, hd⟩
  · exact .inl e1
  · exact .inr ⟨_, sp, hd, by rw [List.length_map, e1]⟩
theorem vt_open {r : List Value} {dd : DataW H} {q : List MemPlace} {n : Nat} (hl : r.length = 3) (h : DataW.trod enc Try.prog W base spare held n 25 r = some (dd, q)) :
    ∃ c : VT, c.Fit ∧ r = c.cells := by
  obtain ⟨xs, k, _, hx, _, hlen, hf⟩ := DataW.trod_struct Try.underlying25 h
  have c5 : Try.prog.cellsOf 5 = 1 := by kernel_rfl
  have c9 : Try.prog.cellsOf 9 = 1 := by kernel_rfl
  have c3 : Try.prog.cellsOf 3 = 1 := by kernel_rfl
  match r, hl, xs, hlen with
  | [v0, v1, v2], _, [y0, y1, y2], _ =>
    have h0 := hf 0 _ rfl
    have h1 := hf 1 _ rfl
    have h2 := hf 2 _ rfl
    simp only [c5, c9, c3, List.drop_succ_cons, List.drop_zero, List.take_succ_cons, List.take_zero, List.getElem?_cons_zero, List.getElem?_cons_succ] at h0 h1 h2
    obtain ⟨n0, e0, rfl, w0⟩ := DataW.trod_int Try.underlying5 h0
    obtain ⟨s1, e1, rfl, _⟩ := DataW.trod_string Try.underlying9 h1
    obtain ⟨n2, e2, rfl, w2⟩ := DataW.trod_int Try.underlying3 h2
    cases e0; cases e1; cases e2
    obtain ⟨m0, rfl, f0⟩ := fits rfl w0
    obtain ⟨g1, g2⟩ := fits64 w2
    exact ⟨⟨m0, s1.data.toList, n2⟩, ⟨f0, g1, g2⟩, rfl⟩
theorem types_open {v : Value} {x : DataW H × List MemPlace} {fuel : Nat} (hr : DataW.trod enc Try.prog W base spare held fuel 23 [v] = some x) :
    ∃ l : List VT, SlN W.heap 3 v l.length (flatV l) ∧ capOk v ∧ (∀ c ∈ l, c.Fit) ∧ (l.length = 0 ∨ ∃ el sp, x.1 = .slice el sp ∧ el.length = l.length) := by
  obtain ⟨rows, hr, hd, hs, _, hc⟩ := rows_open (size := 3) Try.underlying23 (by kernel_rfl) (by decide) hr
  have key : ∀ rows : List (List Value × DataW H), (∀ r ∈ rows, r.1.length = 3 ∧ ∃ n q, DataW.trod enc Try.prog W base spare held n 25 r.1 = some (r.2, q)) →
      ∃ l : List VT, l.length = rows.length ∧ flatV l = rows.flatMap (·.1) ∧ ∀ c ∈ l, c.Fit := by
    intro rows
    induction rows with
    | nil => intro _; exact ⟨[], rfl, rfl, by simp⟩
    | cons r rows ih =>
      intro hr
      obtain ⟨l, h1, h2, h3⟩ := ih (fun r hr' => hr r (by simp [hr']))
      obtain ⟨hl, n, q, hn⟩ := hr r (by simp)
      obtain ⟨c, g1, g2⟩ := vt_open hl hn
      refine ⟨c :: l, by simp [h1], ?_, ?_⟩
      · rw [List.flatMap_cons, ← h2, g2]; rfl
      · intro x hx
        rcases List.mem_cons.1 hx with rfl | hx
        · exact g1
        · exact h3 x hx
  obtain ⟨l, e1, e2, e3⟩ := key rows hr
  refine ⟨l, by rw [e1, e2]; exact hs, hc, e3, ?_⟩
  rcases hd with ⟨_, rfl⟩ | ⟨sp, hd⟩
  · exact .inl e1
  · exact .inr ⟨_, sp, hd, by rw [List.length_map, e1]⟩
end
end Go.Proofs.Ytohkbpnblkkdgaa.open'

/- The law ClassChecks, where what it reads is of bulk at most 1048576: for whatever class the law returns true, and all reads behind the call as it read before. The card is tied: the two tables of unicode/utf8 start as the program's text lays them. Conditions: that bulk. -/
import Derived.Test.YtflocjbhcjhenaaGreatDoorK
import Derived.Test.YtflocjbhcjhenaaGreatDoorFS
import Derived.Test.YtflocjbhcjhenaaGreatDoorCards
import Derived.Test.YtflocjbhcjhenaaGreatDoorTie
import Derived.SevenTiedAt
import Derived.LaidMore
import Derived.Stop.Joined
import Derived.JoinedCond
import Derived.ChangeArms
import Derived.Deep.DeepHandedRow
set_option linter.unusedSimpArgs false
set_option linter.unusedVariables false
namespace Go.Proofs.YtflocjbhcjhenaaGreatDoor.classChecks
open Go.ChangeShapes Go.WideShapes Go.ChangeAt Go.RowKit Go.Vc
open Go.ChangeMaps (open_string shut_string)
set_option maxRecDepth 100000
theorem one_le {H : Type} (d : DataW H) : 1 ≤ Rows.uptoBulk d := by
  cases d with
  | lit l => cases l <;> simp [Rows.uptoBulk]
  | nil => simp [Rows.uptoBulk]
  | ptr d => simp [Rows.uptoBulk]
  | slice elems spare => simp [Rows.uptoBulk]
  | agg parts => simp [Rows.uptoBulk]
  | iface t d => simp [Rows.uptoBulk]
  | map entries => simp [Rows.uptoBulk]
  | held h => simp [Rows.uptoBulk]
theorem length_le {H : Type} (l : List (DataW H)) : l.length ≤ Rows.uptoBulkAll l := by
  induction l with
  | nil => simp [Rows.uptoBulkAll]
  | cons x r ih => have := one_le x; simp only [Rows.uptoBulkAll, List.length_cons]; omega
section
variable {H : Type} {enc : TypeId × Value → H} {W : World} {base : Nat} {spare : Nat → Bool} {held : Bool}
theorem fits {k : IntKind} (hk : k.signed = false) {n : Int} (hw : (Lit.int k n).wf = true) : ∃ m : Nat, n = (m : Int) ∧ m < 2 ^ k.bits := by
  simp only [Lit.wf, Bool.and_eq_true, decide_eq_true_eq, IntKind.min, IntKind.max, hk, Bool.false_eq_true, if_false] at hw
  refine ⟨n.toNat, by omega, ?_⟩
  cases k <;> simp only [IntKind.signed, Bool.true_eq_false, reduceCtorEq] at hk <;> simp only [IntKind.bits] at hw ⊢ <;> omega
theorem cst_open {r : List Value} {dd : DataW H} {q : List MemPlace} {n : Nat} (hl : r.length = 5) (h : DataW.trod enc Tryz.prog W base spare held n 38 r = some (dd, q)) :
    ∃ c : Cst, c.Fit ∧ r = c.cells ∧ c.text.length ≤ Rows.uptoBulk dd := by
  obtain ⟨xs, k, _, hx, _, hlen, hf⟩ := DataW.trod_struct Tryz.underlying38 h
  have c5 : Tryz.prog.cellsOf 5 = 1 := by kernel_rfl
  have c9 : Tryz.prog.cellsOf 9 = 1 := by kernel_rfl
  have c35 : Tryz.prog.cellsOf 36 = 1 := by kernel_rfl
  have c29 : Tryz.prog.cellsOf 22 = 1 := by kernel_rfl
  match r, hl, xs, hlen with
  | [v0, v1, v2, v3, v4], _, [y0, y1, y2, y3, y4], _ =>
    have h0 := hf 0 _ rfl
    have h1 := hf 1 _ rfl
    have h2 := hf 2 _ rfl
    have h3 := hf 3 _ rfl
    have h4 := hf 4 _ rfl
    simp only [c5, c9, c35, c29, List.drop_succ_cons, List.drop_zero, List.take_succ_cons, List.take_zero, List.getElem?_cons_zero, List.getElem?_cons_succ] at h0 h1 h2 h3 h4
    obtain ⟨n0, e0, rfl, w0⟩ := DataW.trod_int Tryz.underlying5 h0
    obtain ⟨s1, e1, rfl, _⟩ := DataW.trod_string Tryz.underlying9 h1
    obtain ⟨n2, e2, rfl, w2⟩ := DataW.trod_int Tryz.underlying36 h2
    obtain ⟨n3, e3, rfl, w3⟩ := DataW.trod_int Tryz.underlying22 h3
    obtain ⟨n4, e4, rfl, w4⟩ := DataW.trod_int Tryz.underlying22 h4
    cases e0; cases e1; cases e2; cases e3; cases e4; cases hx
    obtain ⟨m0, rfl, f0⟩ := fits rfl w0
    obtain ⟨m2, rfl, f2⟩ := fits rfl w2
    obtain ⟨m3, rfl, f3⟩ := fits rfl w3
    obtain ⟨m4, rfl, f4⟩ := fits rfl w4
    refine ⟨⟨m0, s1.data.toList, m2, m3, m4⟩, ⟨f0, f2, f3, f4⟩, rfl, ?_⟩
    simp [Rows.uptoBulk, Rows.uptoBulkAll]
    omega
theorem fits64 {n : Int} (hw : (Lit.int .i64 n).wf = true) : -9223372036854775808 ≤ n ∧ n < 9223372036854775808 := by
  simp only [Lit.wf, Bool.and_eq_true, decide_eq_true_eq, IntKind.min, IntKind.max, IntKind.signed, IntKind.bits] at hw
  have h1 := hw.1
  have h2 := hw.2
  simp at h1 h2
  omega
theorem slice_gen {α : Type} {ts t : TypeId} {size : Nat} (ht : Tryz.prog.underlying ts = some (.slice t)) (hc : Tryz.prog.cellsOf t = size) (hs : 0 < size) (R : α → List Value → Prop) (wt : α → Nat)
    (one : ∀ (r : List Value) (dd : DataW H) (q : List MemPlace) (n : Nat), r.length = size → DataW.trod enc Tryz.prog W base spare held n t r = some (dd, q) → ∃ a, R a r ∧ wt a ≤ Rows.uptoBulk dd)
    {v : Value} {x : DataW H × List MemPlace} {fuel : Nat} (hr : DataW.trod enc Tryz.prog W base spare held fuel ts [v] = some x) :
    ∃ ps : List (α × List Value), SlN W.heap size v ps.length (ps.map (·.2)).flatten ∧ capOk v ∧ (∀ p ∈ ps, R p.1 p.2) ∧ (ps.map fun p => wt p.1).sum ≤ Rows.uptoBulk x.1 ∧ ps.length ≤ Rows.uptoBulk x.1 := by
  obtain ⟨rows, hr, hd, hs, _, hc⟩ := rows_open (size := size) ht hc hs hr
  have key : ∀ rows : List (List Value × DataW H), (∀ r ∈ rows, r.1.length = size ∧ ∃ n q, DataW.trod enc Tryz.prog W base spare held n t r.1 = some (r.2, q)) →
      ∃ ps : List (α × List Value), ps.map (·.2) = rows.map (·.1) ∧ (∀ p ∈ ps, R p.1 p.2) ∧ (ps.map fun p => wt p.1).sum ≤ Rows.uptoBulkAll (rows.map (·.2)) := by
    intro rows
    induction rows with
    | nil => intro _; exact ⟨[], rfl, by simp, by simp⟩
    | cons r rows ih =>
      intro hr
      obtain ⟨ps, h1, h2, h3⟩ := ih (fun r hr' => hr r (by simp [hr']))
      obtain ⟨hl, n, q, hn⟩ := hr r (by simp)
      obtain ⟨a, g1, g2⟩ := one _ _ _ _ hl hn
      refine ⟨(a, r.1) :: ps, by simp [h1], ?_, ?_⟩
      · intro p hp
        rcases List.mem_cons.1 hp with rfl | hp
        · exact g1
        · exact h2 p hp
      · simp only [List.map_cons, List.sum_cons, Rows.uptoBulkAll]; omega
  obtain ⟨ps, h1, h2, h3⟩ := key rows hr
  have hlen : ps.length = rows.length := by have := congrArg List.length h1; simpa using this
  refine ⟨ps, by rw [hlen, h1, ← List.flatMap_def]; exact hs, hc, h2, ?_, ?_⟩
  · rcases hd with ⟨_, rfl⟩ | ⟨sp, hd⟩
    · have : ps = [] := List.length_eq_zero_iff.1 hlen
      subst this; simp
    · rw [hd]; simp only [Rows.uptoBulk]; omega
  · rcases hd with ⟨_, rfl⟩ | ⟨sp, hd⟩
    · rw [hlen]; simp
    · rw [hd, hlen]
      have := length_le (rows.map (·.2))
      rw [List.length_map] at this
      simp only [Rows.uptoBulk]; omega
theorem flat_of {α : Type} (f : α → List Value) (Q : α → Prop) : ∀ ps : List (α × List Value), (∀ p ∈ ps, p.2 = f p.1 ∧ Q p.1) → (ps.map (·.2)).flatten = (ps.map (·.1)).flatMap f ∧ ∀ a ∈ ps.map (·.1), Q a := by
  intro ps
  induction ps with
  | nil => intro _; exact ⟨rfl, by simp⟩
  | cons p r ih =>
    intro h
    obtain ⟨h1, h2⟩ := ih (fun p hp => h p (by simp [hp]))
    obtain ⟨h3, h4⟩ := h p (by simp)
    refine ⟨by simp only [List.map_cons, List.flatten_cons, List.flatMap_cons, h1, h3], ?_⟩
    intro a ha
    rw [List.map_cons] at ha
    rcases List.mem_cons.1 ha with rfl | ha
    · exact h4
    · exact h2 a ha
theorem u16_open {cs : List Value} {x : DataW H × List MemPlace} {fuel : Nat} (h : DataW.trod enc Tryz.prog W base spare held fuel 22 cs = some x) : ∃ n : Nat, n < 65536 ∧ cs = [.int .u16 (n : Int)] ∧ x = (.lit (.int .u16 (n : Int)), []) := by
  obtain ⟨n, e, ex, w⟩ := DataW.trod_int Tryz.underlying22 h
  obtain ⟨m, rfl, f⟩ := fits rfl w
  exact ⟨m, f, e, ex⟩
theorem i64_open {cs : List Value} {x : DataW H × List MemPlace} {fuel : Nat} (h : DataW.trod enc Tryz.prog W base spare held fuel 3 cs = some x) : ∃ n : Int, (-9223372036854775808 ≤ n ∧ n < 9223372036854775808) ∧ cs = [.int .i64 n] ∧ x = (.lit (.int .i64 n), []) := by
  obtain ⟨n, e, ex, w⟩ := DataW.trod_int Tryz.underlying3 h
  exact ⟨n, fits64 w, e, ex⟩
theorem text_open {cs : List Value} {x : DataW H × List MemPlace} {fuel : Nat} (h : DataW.trod enc Tryz.prog W base spare held fuel 9 cs = some x) : ∃ l : List UInt8, cs = [str l] ∧ x = (.lit (.string l), []) := by
  obtain ⟨s, e, ex, _⟩ := DataW.trod_string Tryz.underlying9 h
  exact ⟨s.data.toList, e, ex⟩
theorem nat_one (r : List Value) (dd : DataW H) (q : List MemPlace) (n : Nat) (hl : r.length = 1) (h : DataW.trod enc Tryz.prog W base spare held n 22 r = some (dd, q)) : ∃ a : Nat, (r = [.int .u16 (a : Int)] ∧ a < 65536) ∧ 0 ≤ Rows.uptoBulk dd := by
  obtain ⟨a, h1, h2, _⟩ := u16_open h
  exact ⟨a, ⟨h2, h1⟩, Nat.zero_le _⟩
theorem cst_one (r : List Value) (dd : DataW H) (q : List MemPlace) (n : Nat) (hl : r.length = 5) (h : DataW.trod enc Tryz.prog W base spare held n 38 r = some (dd, q)) : ∃ a : Cst, (r = a.cells ∧ a.Fit) ∧ a.text.length ≤ Rows.uptoBulk dd := by
  obtain ⟨c, h1, h2, h3⟩ := cst_open hl h
  exact ⟨c, ⟨h2, h1⟩, h3⟩
theorem fld_one (r : List Value) (dd : DataW H) (q : List MemPlace) (n : Nat) (hl : r.length = 4) (h : DataW.trod enc Tryz.prog W base spare held n 51 r = some (dd, q)) : ∃ a : Fld, (r = a.cells ∧ a.Fit) ∧ 0 ≤ Rows.uptoBulk dd := by
  obtain ⟨xs, k, _, hx, _, hlen, hf⟩ := DataW.trod_struct Tryz.underlying51 h
  have c29 : Tryz.prog.cellsOf 22 = 1 := by kernel_rfl
  match r, hl, xs, hlen with
  | [v0, v1, v2, v3], _, [y0, y1, y2, y3], _ =>
    have h0 := hf 0 _ rfl
    have h1 := hf 1 _ rfl
    have h2 := hf 2 _ rfl
    have h3 := hf 3 _ rfl
    simp only [c29, List.drop_succ_cons, List.drop_zero, List.take_succ_cons, List.take_zero, List.getElem?_cons_zero, List.getElem?_cons_succ] at h0 h1 h2 h3
    obtain ⟨n0, b0, e0, _⟩ := u16_open h0
    obtain ⟨n1, b1, e1, _⟩ := u16_open h1
    obtain ⟨n2, b2, e2, _⟩ := u16_open h2
    obtain ⟨n3, b3, e3, _⟩ := u16_open h3
    cases e0; cases e1; cases e2; cases e3
    exact ⟨⟨n0, n1, n2, n3⟩, ⟨rfl, ⟨b0, b1, b2, b3⟩⟩, Nat.zero_le _⟩
theorem hnd_one (r : List Value) (dd : DataW H) (q : List MemPlace) (n : Nat) (hl : r.length = 4) (h : DataW.trod enc Tryz.prog W base spare held n 86 r = some (dd, q)) : ∃ a : Hnd, (r = a.cells ∧ a.Fit) ∧ 0 ≤ Rows.uptoBulk dd := by
  obtain ⟨xs, k, _, hx, _, hlen, hf⟩ := DataW.trod_struct Tryz.underlying86 h
  have c29 : Tryz.prog.cellsOf 22 = 1 := by kernel_rfl
  have c3 : Tryz.prog.cellsOf 3 = 1 := by kernel_rfl
  match r, hl, xs, hlen with
  | [v0, v1, v2, v3], _, [y0, y1, y2, y3], _ =>
    have h0 := hf 0 _ rfl
    have h1 := hf 1 _ rfl
    have h2 := hf 2 _ rfl
    have h3 := hf 3 _ rfl
    simp only [c29, c3, List.drop_succ_cons, List.drop_zero, List.take_succ_cons, List.take_zero, List.getElem?_cons_zero, List.getElem?_cons_succ] at h0 h1 h2 h3
    obtain ⟨n0, b0, e0, _⟩ := i64_open h0
    obtain ⟨n1, b1, e1, _⟩ := i64_open h1
    obtain ⟨n2, b2, e2, _⟩ := i64_open h2
    obtain ⟨n3, b3, e3, _⟩ := u16_open h3
    cases e0; cases e1; cases e2; cases e3
    exact ⟨⟨n0, n1, n2, n3⟩, ⟨rfl, ⟨b0.1, b0.2, b1.1, b1.2, b2.1, b2.2, b3⟩⟩, Nat.zero_le _⟩
theorem cde_open {r : List Value} {x : DataW H × List MemPlace} {n : Nat} (hl : r.length = 5) (h : DataW.trod enc Tryz.prog W base spare held n 41 r = some x) :
    ∃ (c : Cde) (vH : Value), c.Fit ∧ r = CdeV c vH ∧ SlN W.heap 4 vH c.hs.length (flatH c.hs) ∧ capOk vH ∧ c.bytes.length + c.map.length + c.hs.length ≤ Rows.uptoBulk x.1 := by
  obtain ⟨xs, k, _, hx, _, hlen, hf⟩ := DataW.trod_struct Tryz.underlying41 h
  have c9 : Tryz.prog.cellsOf 9 = 1 := by kernel_rfl
  have c3 : Tryz.prog.cellsOf 3 = 1 := by kernel_rfl
  have ch : Tryz.prog.cellsOf 39 = 1 := by kernel_rfl
  match r, hl, xs, hlen with
  | [v0, v1, v2, v3, v4], _, [y0, y1, y2, y3, y4], _ =>
    have h0 := hf 0 _ rfl
    have h1 := hf 1 _ rfl
    have h2 := hf 2 _ rfl
    have h3 := hf 3 _ rfl
    have h4 := hf 4 _ rfl
    simp only [c9, c3, ch, List.drop_succ_cons, List.drop_zero, List.take_succ_cons, List.take_zero, List.getElem?_cons_zero, List.getElem?_cons_succ] at h0 h1 h2 h3 h4
    obtain ⟨n0, b0, e0, y0e⟩ := i64_open h0
    obtain ⟨n1, b1, e1, y1e⟩ := i64_open h1
    obtain ⟨n2, e2, y2e⟩ := text_open h2
    obtain ⟨ps, s1, s2, s3, _, s5⟩ := slice_gen Tryz.underlying39 (size := 4) (by kernel_rfl) (by decide) _ _ hnd_one h3
    obtain ⟨n4, e4, y4e⟩ := text_open h4
    obtain ⟨f1, f2⟩ := flat_of Hnd.cells Hnd.Fit ps s3
    cases e0; cases e1; cases e2; cases e4
    refine ⟨⟨n0, n1, n2, ps.map (·.1), n4⟩, v3, ⟨b0.1, b0.2, b1.1, b1.2, f2⟩, rfl, ?_, s2, ?_⟩
    · simp only [List.length_map, flatH]; rw [← f1]; exact s1
    · subst y2e y4e hx
      simp only [List.map_cons, List.map_nil, Rows.uptoBulk, Rows.uptoBulkAll, List.length_map]
      omega
theorem mth_one (r : List Value) (dd : DataW H) (q : List MemPlace) (n : Nat) (hl : r.length = 9) (h : DataW.trod enc Tryz.prog W base spare held n 43 r = some (dd, q)) : ∃ a : Mth, (MthC W.heap a r ∧ a.Fit) ∧ mW a ≤ Rows.uptoBulk dd := by
  obtain ⟨xs, k, _, hx, _, hlen, hf⟩ := DataW.trod_struct Tryz.underlying43 h
  have c29 : Tryz.prog.cellsOf 22 = 1 := by kernel_rfl
  have cb : Tryz.prog.cellsOf 4 = 1 := by kernel_rfl
  have cc : Tryz.prog.cellsOf 41 = 5 := by kernel_rfl
  match r, hl, xs, hlen with
  | [v0, v1, v2, v3, v4, v5, v6, v7, v8], _, [y0, y1, y2, y3, y4], _ =>
    have h0 := hf 0 _ rfl
    have h1 := hf 1 _ rfl
    have h2 := hf 2 _ rfl
    have h3 := hf 3 _ rfl
    have h4 := hf 4 _ rfl
    simp only [c29, cb, cc, List.drop_succ_cons, List.drop_zero, List.take_succ_cons, List.take_zero, List.getElem?_cons_zero, List.getElem?_cons_succ] at h0 h1 h2 h3 h4
    obtain ⟨n0, b0, e0, y0e⟩ := u16_open h0
    obtain ⟨n1, b1, e1, y1e⟩ := u16_open h1
    obtain ⟨n2, b2, e2, y2e⟩ := u16_open h2
    obtain ⟨n3, e3, y3e⟩ := DataW.trod_bool Tryz.underlying4 h3
    have h4' : DataW.trod enc Tryz.prog W base spare held k 41 ([v4, v5, v6, v7, v8].take (Tryz.prog.cellsOf 41)) = some y4 := hf 4 _ rfl
    rw [cc] at h4'
    obtain ⟨c, vH, g1, g2, g3, g4, g5⟩ := cde_open (r := [v4, v5, v6, v7, v8]) rfl h4'
    cases e0; cases e1; cases e2; cases e3
    refine ⟨⟨n0, n1, n2, n3, c⟩, ⟨⟨vH, ?_, g3, g4⟩, ⟨b0, b1, b2, g1⟩⟩, ?_⟩
    · simp only [MthV, List.cons_append, List.nil_append, ← g2]
    · cases hx
      simp only [mW, List.map_cons, List.map_nil, Rows.uptoBulk, Rows.uptoBulkAll]
      omega
theorem sum_text (l : List Cst) : textW l = (l.map fun c => c.text.length).sum := by
  induction l with
  | nil => rfl
  | cons x r ih => simp only [textW, List.map_cons, List.sum_cons, ih]
theorem sum_mth (l : List Mth) : sumW l = (l.map mW).sum := by
  induction l with
  | nil => rfl
  | cons x r ih => simp only [sumW, List.map_cons, List.sum_cons, ih]
theorem class_open {r : List Value} {x : DataW H × List MemPlace} {n : Nat} (hl : r.length = 9) (h : DataW.trod enc Tryz.prog W base spare held n 28 r = some x) :
    ∃ (c : Cls) (vp vi vf vm : Value), c.Fit ∧ r = ClsV c vp vi vf vm ∧ ClsC W.heap c vp vi vf vm ∧ sizeW c ≤ 6 * Rows.uptoBulk x.1 := by
  obtain ⟨xs, k, _, hx, _, hlen, hf⟩ := DataW.trod_struct Tryz.underlying28 h
  have c29 : Tryz.prog.cellsOf 22 = 1 := by kernel_rfl
  have cp : Tryz.prog.cellsOf 23 = 1 := by kernel_rfl
  have ci : Tryz.prog.cellsOf 24 = 1 := by kernel_rfl
  have cf : Tryz.prog.cellsOf 25 = 1 := by kernel_rfl
  have cm : Tryz.prog.cellsOf 26 = 1 := by kernel_rfl
  match r, hl, xs, hlen with
  | [v0, v1, v2, v3, v4, v5, v6, v7, v8], _, [y0, y1, y2, y3, y4, y5, y6, y7, y8], _ =>
    have h0 := hf 0 _ rfl
    have h1 := hf 1 _ rfl
    have h2 := hf 2 _ rfl
    have h3 := hf 3 _ rfl
    have h4 := hf 4 _ rfl
    have h5 := hf 5 _ rfl
    have h6 := hf 6 _ rfl
    have h7 := hf 7 _ rfl
    have h8 := hf 8 _ rfl
    simp only [c29, cp, ci, cf, cm, List.drop_succ_cons, List.drop_zero, List.take_succ_cons, List.take_zero, List.getElem?_cons_zero, List.getElem?_cons_succ] at h0 h1 h2 h3 h4 h5 h6 h7 h8
    obtain ⟨n0, b0, e0, _⟩ := u16_open h0
    obtain ⟨n1, b1, e1, _⟩ := u16_open h1
    obtain ⟨n2, b2, e2, _⟩ := u16_open h2
    obtain ⟨n3, b3, e3, _⟩ := u16_open h3
    obtain ⟨n4, b4, e4, _⟩ := u16_open h4
    obtain ⟨pp, p1, p2, p3, p4, p5⟩ := slice_gen Tryz.underlying23 (size := 5) (by kernel_rfl) (by decide) _ _ cst_one h5
    obtain ⟨pi, i1, i2, i3, _, i5⟩ := slice_gen Tryz.underlying24 (size := 1) (by kernel_rfl) (by decide) _ _ nat_one h6
    obtain ⟨pf, f1, f2, f3, _, f5⟩ := slice_gen Tryz.underlying25 (size := 4) (by kernel_rfl) (by decide) _ _ fld_one h7
    obtain ⟨pm, m1, m2, m3, m4, m5⟩ := slice_gen Tryz.underlying26 (size := 9) (by kernel_rfl) (by decide) _ _ mth_one h8
    obtain ⟨fp1, fp2⟩ := flat_of Cst.cells Cst.Fit pp p3
    obtain ⟨fi1, fi2⟩ := flat_of (fun a : Nat => [Value.int .u16 (a : Int)]) (fun a => a < 65536) pi i3
    obtain ⟨ff1, ff2⟩ := flat_of Fld.cells Fld.Fit pf f3
    have hnat : ∀ l : List Nat, l.flatMap (fun a : Nat => [Value.int .u16 (a : Int)]) = natV l := fun l => by
      induction l with
      | nil => rfl
      | cons a r ih => rw [List.flatMap_cons, ih]; rfl
    cases e0; cases e1; cases e2; cases e3; cases e4
    refine ⟨⟨n0, n1, n2, n3, n4, pp.map (·.1), pi.map (·.1), pf.map (·.1), pm.map (·.1)⟩, v5, v6, v7, v8, ⟨b0, b1, b2, b3, b4, fp2, fi2, ff2, ?_⟩, rfl, ⟨?_, p2, ?_, i2, ?_, f2, ⟨pm.map (·.2), by simp, by simp only [List.length_map]; exact m1, ?_⟩, m2⟩, ?_⟩
    · intro a ha
      obtain ⟨p, hp, rfl⟩ := List.mem_map.1 ha
      exact (m3 p hp).2
    · simp only [List.length_map, flatS]; rw [← fp1]; exact p1
    · simp only [List.length_map]; rw [← hnat, ← fi1]; exact i1
    · simp only [List.length_map, flatF]; rw [← ff1]; exact f1
    · intro j hj
      simp only [List.length_map] at hj
      have := (m3 pm[j] (List.getElem_mem hj)).1
      simpa [hj] using this
    · subst hx
      have q1 : textW (pp.map (·.1)) = (pp.map fun p => p.1.text.length).sum := by rw [sum_text, List.map_map]; rfl
      have q2 : sumW (pm.map (·.1)) = (pm.map fun p => mW p.1).sum := by rw [sum_mth, List.map_map]; rfl
      unfold sizeW
      simp only [q1, q2, List.length_map, List.map_cons, List.map_nil, Rows.uptoBulk, Rows.uptoBulkAll]
      omega
end
theorem contract (H : Type) (enc : TypeId × Value → H) (W : World) (base : Nat) (args : Array Value) (ds gs : List (DataW H)) (before : List MemPlace)
    (hval0 : ∀ (j : Nat) t v, Tryz.f3.params[j]? = some t → args[j]? = some v → Value.okWide Tryz.prog W .any base t v)
    (hW : DataW.Whole enc Tryz.prog Tryz.f3.params.toList Rows.classChecksSpec.vars false W args.toList ds gs before) (hk : Rows.uptoSmall H (ds ++ gs) = true) :
    Calls Tryz.prog 3 args W fun e W' => ∃ v, e = .returned v ∧ Rows.classChecksSpec.post enc Tryz.prog Tryz.f3 false true false false W args v W' := by
  have hval : ∀ (j : Nat) t v, Tryz.f3.params[j]? = some t → args[j]? = some v → Value.okWide Tryz.prog W .any base t v := hval0
  have hW' := hW
  obtain ⟨p, q, hA0, hV, rfl, hfz, hnd⟩ := hW
  have hA : DataW.TrodAll enc Tryz.prog W 0 (fun _ => true) true Tryz.f3.params.toList args.toList ds p := hA0
  rw [Tryz.params3] at hA hval
  obtain ⟨v0, vs0, d0, ds0, p0, q0, hargs, rfl, rfl, h0, r0⟩ := trodAll_cons hA
  obtain ⟨rfl, rfl, rfl⟩ := trodAll_nil r0
  obtain rfl : args = #[v0] := by cases args; simp_all
  obtain ⟨rfl, rfl⟩ := trodVars_none hV
  obtain ⟨cs, rfl, hcs⟩ := okWide_struct Tryz.underlying28 (hval 0 28 v0 rfl rfl)
  have hc9 : Tryz.prog.cellsOf 28 = 9 := by kernel_rfl
  have hb : Rows.uptoBulk d0 ≤ 1048576 := by
    have h := of_decide_eq_true hk
    simp only [List.append_nil, Rows.uptoBulkAll] at h
    omega
  obtain ⟨fu0, hf0⟩ := h0
  obtain ⟨c, vp, vi, vf, vm, t1, t2, t3, t4⟩ := class_open (r := cs.toList) (by rw [Array.length_toList, hcs, hc9]) hf0
  have hcsl : cs = (ClsV c vp vi vf vm).toArray := by rw [← t2]
  subst hcsl
  simp only at t4
  clear hA0 hval0
  exact (law_calls (classChecks_any c vp vi vf vm W.heap t3 t1 (by omega))).mono fun e W' ⟨he, hB⟩ => ⟨_, he, post_of_law laidOut (by kernel_rfl) rfl Tryz.underlying4 rfl rfl hW' hB⟩
theorem lifted (os : Os) (started : os.Started) (H : Type) (enc : TypeId × Value → H) (F : Stop.Interp) :
    ReturnsInHanded {} Tryz.checked os 3 .any ((Rows.OpenSpec.upto Rows.classChecksSpec).preRow enc Tryz.prog Tryz.f3 Rows.classChecksUptoRow.domain false Rows.classChecksUptoRow.laid) (((Rows.OpenSpec.upto Rows.classChecksSpec).at F).post enc Tryz.prog Tryz.f3 false true false false) := by
  obtain ⟨w0, ew⟩ : ∃ w0 : World, w0 = { World.doorLaid Tryz.prog 400 os with heap := (World.doorLaid Tryz.prog 400 os).heap.modify 1 fun o => match o with
        | .cells _ t z => .cells ((Pinned.utf8FirstZ.map fun n : Nat => Value.int .u8 (n : Int)).toArray) t z
        | o => o } := ⟨_, rfl⟩
  have hmet : laidMet Tryz.prog Rows.classChecksUptoRow.laid (w0.forCall (fun _ _ => 0) ⟨#[], #[.agg #[.int .u16 0, .int .u16 0, .int .u16 0, .int .u16 0, .int .u16 0, .slice none 0 0, .slice none 0 0, .slice none 0 0, .slice none 0 0]], []⟩).memory := by
    subst ew
    exact laidMet_of_run' 8 (by kernel_rfl) (by kernel_rfl)
  have hx : ∃ places, DataW.whole enc Tryz.prog (w0.forCall (fun _ _ => 0) ⟨#[], #[.agg #[.int .u16 0, .int .u16 0, .int .u16 0, .int .u16 0, .int .u16 0, .slice none 0 0, .slice none 0 0, .slice none 0 0, .slice none 0 0]], []⟩).memory Tryz.f3.params.toList Rows.classChecksSpec.vars false #[Value.agg #[.int .u16 0, .int .u16 0, .int .u16 0, .int .u16 0, .int .u16 0, .slice none 0 0, .slice none 0 0, .slice none 0 0, .slice none 0 0]].toList 8 = some ([.agg [.lit (.int .u16 0), .lit (.int .u16 0), .lit (.int .u16 0), .lit (.int .u16 0), .lit (.int .u16 0), .nil, .nil, .nil, .nil]], [], places) := by
    subst ew
    exact ⟨[], by kernel_rfl⟩
  obtain ⟨places, hx⟩ := hx
  refine returnsInHanded_of_row (C := Tryz.checked) (s := Rows.OpenSpec.upto Rows.classChecksSpec) own started (by kernel_rfl) Tryz.func3
    (witness_row_at (enc := enc) (C := Tryz.checked) false w0 #[.agg #[.int .u16 0, .int .u16 0, .int .u16 0, .int .u16 0, .int .u16 0, .slice none 0 0, .slice none 0 0, .slice none 0 0, .slice none 0 0]] (by subst ew; rfl) (by subst ew; kernel_rfl) (by subst ew; kernel_rfl) (by subst ew; kernel_rfl)
      (OpenSpec.preRow_of_cond 8 hx (by kernel_rfl) (fun k hk => by cases hk; kernel_rfl) (by subst ew; kernel_rfl) hmet)) ?_
  intro W base args ds gs before hval hW _ hcond _ hL _ _
  exact contract H enc W base args ds gs before hval hW (hcond _ rfl)
theorem row : Rows.ClassChecksUptoSaid :=
  OpenClaim.holds_of_cond 3 Tryz.f3 rfl rfl rfl rfl rfl rfl rfl ⟨rfl, rfl, rfl, rfl, rfl⟩ rfl rfl rfl rfl rfl (by kernel_rfl) Tryz.func3 (by kernel_rfl)
    (of_decide_eq_true (by kernel_rfl)) (by unfold Func.isWrapper; first | (rw [if_pos (by decide +kernel)]; kernel_rfl) | (rw [if_neg (by decide +kernel)]; exact ⟨rfl, rfl⟩))
    (fun os started H enc _ F => by rw [OpenClaim.pre_eq_preRow]; exact lifted os started H enc F)
theorem plain (f : FuncId) (fn : Func) (hf : Tryz.pinned.checked.prog.funcNamed Tryz.f3.name = some f) (hfn : Tryz.pinned.checked.prog.funcs[f]? = some fn) :
    false = Tryz.pinned.checked.prog.looks [] ∧ ∀ (j : Nat) t, fn.params[j]? = some t → Tryz.pinned.checked.prog.wantsStandIn t = false := by
  obtain rfl : f = 3 := Option.some.inj ((show Tryz.prog.funcNamed Tryz.f3.name = some 3 by kernel_rfl).symm.trans hf) |>.symm
  obtain rfl : fn = Tryz.f3 := (Option.some.inj (Tryz.func3.symm.trans hfn)).symm
  refine ⟨by kernel_rfl, fun j t ht => ?_⟩
  rw [Tryz.params3] at ht
  have hm : t ∈ [28] := by simpa using Array.mem_of_getElem? ht
  have hall : ([28].all fun u => !Tryz.prog.wantsStandIn u) = true := by kernel_rfl
  exact (show Tryz.prog.wantsStandIn t = false by simpa using List.all_eq_true.1 hall t hm)
theorem proved : Rows.ClassChecksUptoCardSaid :=
  Claim7.holds_tied_plain_at .later [] _ _ _ _ row (fun _ h => by cases h) (by kernel_rfl) (fun _ h => by cases h) classChecksUpto_row_tie rfl ⟨rfl, rfl⟩ (by kernel_rfl) rfl plain (by kernel_rfl)
#print axioms proved
end Go.Proofs.YtflocjbhcjhenaaGreatDoor.classChecks

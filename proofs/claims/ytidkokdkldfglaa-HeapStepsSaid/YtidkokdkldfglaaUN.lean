/- The young looked at, by the program. No condition. -/
import Derived.Test.YtidkokdkldfglaaUM
namespace Go.Proofs.Ytidkokdkldfglaa
open Go.Vc
set_option maxRecDepth 100000
set_option linter.unusedSimpArgs false
set_option linter.unusedVariables false

/-- What is at a place is old, or was there. -/
theorem MW.vld {base : Nat} {h0 hc : Heap} {p0 : Ph} {s0 s : St} {b O oc : Nat} (I : Inv s0) (W : MW base h0 p0 s0 b hc O oc s) {loc : Loc} {x : Nat} (hl : getL s loc = some x) (hv : ∀ y, getL s0 loc = some y → valid s0 y) : x < 2147483648 ∨ valid s0 x := by
  have ob := W.m.bound I
  obtain ⟨y, h1, h2⟩ := W.m.ge loc x hl
  rcases h2 with h2 | ⟨_, c, h3, h4, h5⟩
  · subst h2; exact .inr (hv x h1)
  · have := (List.getElem?_eq_some_iff.1 (W.m.yf _ c h3 (by omega)).2.2).1
    exact .inl (by omega)
theorem root_valid {s0 : St} (I : Inv s0) (k : Nat) : ∀ y, getL s0 (.root k) = some y → valid s0 y := fun y hy => I.rv y (List.mem_of_getElem? hy)
theorem ref_valid {s0 : St} (I : Inv s0) {r : Nat} {c : CP} {g : Nat} (h0 : r ≠ 0) (hv : valid s0 r) (hl : look s0 r = some c) (hg : c.rg = some g) (i : Nat) : ∀ y, getL s0 (.ref g i) = some y → valid s0 y := fun y hy => by
  rw [getL_rl hg] at hy
  exact (I.ha r c h0 hv hl).rl.2 y (List.mem_of_getElem? hy)
theorem MW.cell {base : Nat} {h0 hc : Heap} {p0 : Ph} {s0 s : St} {b O oc : Nat} (I : Inv s0) (W : MW base h0 p0 s0 b hc O oc s) {r : Nat} {c : CP} (hr : s.old[r]? = some c) (h0r : r ≠ 0) :
    ∃ g, c.rg = some g ∧ (∀ j, j < c.rn → ∃ x, getL s (.ref g j) = some x) ∧ (∀ j y, getL s0 (.ref g j) = some y → valid s0 y) ∧ (rl s c).length = c.rn ∧ c.size ≤ 16386 := by
  have il := I.len
  have hfr := I.fr
  have hus := I.us
  have hul := I.ul
  have hll := I.ll
  obtain ⟨q, c0, hq0, hq, hl, hc⟩ : ∃ q c0, q ≠ 0 ∧ valid s0 q ∧ look s0 q = some c0 ∧ c.rg = c0.rg ∧ c.rn = c0.rn ∧ c.wn = c0.wn ∧ c0.size ≤ 16386 := by
    rcases W.m.oo r c hr with ⟨h1, c0, h2, h3, _⟩ | ⟨h1, i, ci, h2, h3, h4⟩
    · refine ⟨r, c0, h0r, .inl ⟨by omega, h1⟩, by unfold look; rw [if_pos (by omega)]; exact h2, by rw [h3], by rw [h3], by rw [h3], ?_⟩
      have := sumF_mem (f := CP.size) h2
      unfold wsum at hus; omega
    · obtain ⟨c0, k1, k2⟩ := W.m.yo i ci h2
      have hi0 := (W.m.yf i ci h2 (by omega)).1
      have hil := (List.getElem?_eq_some_iff.1 k1).1
      refine ⟨2147483648 + i, c0, by omega, .inr ⟨by omega, by omega⟩, by unfold look; rw [if_neg (by omega), show 2147483648 + i - 2147483648 = i by omega]; exact k1, by rw [h4, k2], by rw [h4, k2], by rw [h4, k2], ?_⟩
      have := sumF_mem (f := CP.size) k1
      unfold wsum at hfr; omega
  obtain ⟨hc1, hc2, hc3, hc4⟩ := hc
  obtain ⟨g, l, e1, e2, e3, e4⟩ := (I.ha q c0 hq0 hq hl).r
  have hn := W.m.rn g
  rw [e2] at hn
  cases hs : s.RS g with
  | none => rw [hs] at hn; cases hn
  | some l' =>
    rw [hs] at hn
    have hn : l'.length = l.length := by simpa using hn
    refine ⟨g, hc1.trans e1, fun j hj => ⟨l'[j]'(by omega), by simp [getL, hs]⟩, ref_valid I hq0 hq hl e1, ?_, ?_⟩
    · rw [rl_of (hc1.trans e1) hs]; omega
    · unfold CP.size at hc4 ⊢; omega
theorem DnC_of {s : St} {r : Nat} {c : CP} {g : Nat} (hr : s.old[r]? = some c) (hg : c.rg = some g) (hd : ∀ j, j < (rl s c).length → Dn s (.ref g j)) : DnC s r := by
  intro c' hc' x hx
  rw [hr] at hc'; cases hc'
  obtain ⟨j, hj⟩ := List.getElem?_of_mem hx
  refine hd j (List.getElem?_eq_some_iff.1 hj).1 x ?_
  rw [getL_rl hg]; exact hj
theorem MW.unsee {base : Nat} {h0 hc : Heap} {p0 : Ph} {s0 s : St} {b O oc : Nat} (W : MW base h0 p0 s0 b hc O oc s) {r : Nat} {c : CP} (hr : s.old[r]? = some c) (hl : r < s0.old.length) :
    MW base h0 p0 s0 b (setAt hc ⟨O, r * 7 + 6, none⟩ (.bool false)) O oc { s with old := s.old.set r { c with seen := false } } ∧ (∀ loc, Dn s loc → Dn { s with old := s.old.set r { c with seen := false } } loc) ∧
    (∀ k, DnC s k → DnC { s with old := s.old.set r { c with seen := false } } k) ∧ (s.old.set r { c with seen := false })[r]? = some { c with seen := false } ∧
    (∀ (k : Nat) d, (s.old.set r { c with seen := false })[k]? = some d → (k = r ∧ d.seen = false) ∨ s.old[k]? = some d) := by
  have S := W.st.rep.oldc (c' := { c with seen := false }) (v := .bool false) hr (j := 6) (by decide) rfl
  have og := set_get (c' := { c with seen := false }) hr
  refine ⟨⟨W.st.trans S, unsee_law W.m hr hl, W.b.stp S Pk.refl⟩, fun loc hd y hy => hd y (by cases loc <;> exact hy), fun k hd d hk0 x hx => ?_, by rw [og, if_pos rfl], fun k d hk => ?_⟩
  · have hk : (s.old.set r { c with seen := false })[k]? = some d := hk0
    clear hk0
    rw [og] at hk
    split at hk
    · next e => subst e; cases hk; exact hd c hr x hx
    · exact hd d hk x hx
  · rw [og] at hk
    split at hk
    · next e => cases hk; exact .inl ⟨e, rfl⟩
    · exact .inr hk
/-- Behind the list: all of the old that were there are done. -/
theorem MW.rest {base : Nat} {h0 hc : Heap} {p0 : Ph} {s0 s : St} {b O oc : Nat} (I : Inv s0) (W : MW base h0 p0 s0 b hc O oc s) (hd : ∀ (j r : Nat), j < s0.refers.length → s0.refers[j]? = some r → DnC s r ∧ ∀ c, s.old[r]? = some c → c.seen = false) :
    ∀ k, k < s0.old.length → DnC s k ∧ ∀ c, s.old[k]? = some c → c.seen = false := by
  intro k hk
  by_cases hm : k ∈ s0.refers
  · obtain ⟨j, hj⟩ := List.getElem?_of_mem hm
    exact hd j k (List.getElem?_eq_some_iff.1 hj).1 hj
  · have key : ∀ c, s.old[k]? = some c → ∃ c0, s0.old[k]? = some c0 ∧ c0.seen = false ∧ c.seen = false ∧ c.rg = c0.rg := by
      intro c hc
      rcases W.m.oo k c hc with ⟨_, c0, h2, h3, h4⟩ | ⟨h1, _⟩
      · have h5 : c0.seen = false := by
          cases hs : c0.seen with
          | false => rfl
          | true => exact absurd (I.sn k c0 h2 hs) hm
        refine ⟨c0, h2, h5, ?_, by rw [h3]⟩
        cases hs : c.seen with
        | false => rfl
        | true => have := h4 hs; rw [h5] at this; cases this
      · omega
    refine ⟨fun c hc x hx => ?_, fun c hc => (key c hc).choose_spec.2.2.1⟩
    obtain ⟨c0, k1, k2, _, k4⟩ := key c hc
    cases hg : c.rg with
    | none => simp [rl, hg] at hx
    | some g =>
      obtain ⟨j, hj⟩ := List.getElem?_of_mem hx
      rw [← getL_rl hg] at hj
      obtain ⟨y, y1, y2⟩ := W.m.ge _ x hj
      have hy : y < 2147483648 := by
        rcases Nat.lt_or_ge y 2147483648 with h | h
        · exact h
        · rw [getL_rl (k4.symm.trans hg)] at y1
          have := I.yg k c0 k1 y (List.mem_of_getElem? y1) h
          rw [k2] at this; cases this
      rcases y2 with y2 | ⟨y3, _⟩
      · omega
      · omega
theorem mt_sp : mtT Try.prog 26 "Each" 68 = true := by kernel_rfl
set_option maxHeartbeats 2000000 in
theorem Minor_end {base : Nat} {h hc : Heap} {p : Ph} {s0 s : St} {a : AS} {b O oc k : Nat} (R : Rep base h p s0) (I : Inv s0) (S : Sim s0 a) (hbs : base ≤ h.size) (hb : b = h.size) (W : MW base h p s0 b hc O oc s) (hbs2 : base ≤ hc.size)
    (hdr : ∀ j, j < 16 → Dn s (.root j)) (hdc : ∀ j, j < s.old.length → DnC s j) (hsn : ∀ (j : Nat) c, j < s0.old.length → s.old[j]? = some c → c.seen = false) :
    Cd.vc Try.prog C.h_Minor_t0 (retQ Try.prog [] fun v h' => ∃ p' s', Stp base h h' p p' s0 s' ∧ Pk p p' ∧ Inv s' ∧ Sim s' a ∧ s'.young = [nul] ∧ s'.refers = [] ∧ s'.limit = s0.limit ∧ s'.room = s0.room)
      [(2, ptr b 0), (4, .int .i64 (s0.old.length : Int)), (5, .func (.func 45) #[] #[ptr b 0]), (9, .int .i64 (k : Int)), (71, .bool false)] hc := by
  obtain ⟨fa, fc, hfv, hfr⟩ : ∃ fa fc, p.fv = .slice fa s0.refers.length fc ∧ ((fa = none ∧ fc = 0) ∨ ∃ g, fa = some ⟨g, 0, none⟩) := by
    rcases R.fo.rd with ⟨h1, h2, _⟩ | ⟨g, c, h1, _⟩
    · exact ⟨none, 0, by rw [h1, h2], .inl ⟨rfl, rfl⟩⟩
    · exact ⟨_, c, h1, .inr ⟨g, rfl⟩⟩
  have bx := W.b.get
  have l6 : cellAt hc ⟨p.H, 6, none⟩ = some p.fv := W.st.rep.h6
  have z6 : frozenAt hc ⟨p.H, 6, none⟩ = false := W.st.rep.hz 6
  rw [hfv] at l6
  have hsl : slA fa fc 0 1 = fa := by
    unfold slA
    split
    · rfl
    · rcases hfr with ⟨h1, _⟩ | ⟨g, rfl⟩
      · rw [h1]; rfl
      · rfl
  simp (disch := first | omega | assumption) only [C.h_Minor_gos, T.tv, ↓reduceIte, Nat.reduceEqDiff, reduceCtorEq, Nat.reduceLeDiff, Nat.reducePow, Int.reducePow, Int.reduceToNat, Nat.reduceAdd, C.h_Minor_t0_go, bx, l6, hsl, Nat.sub_zero]
  refine eff_store1_z T.zr_68 rfl rfl rfl rfl rfl l6 z6 ?_
  have q0 := W.st.rep
  have fo0 := q0.fo
  have fv0 : ({ p with O := O, oc := oc } : Ph).fv = .slice fa s0.refers.length fc := hfv
  have S1 : Stp base hc (setAt hc ⟨p.H, 6, none⟩ (.slice fa 0 fc)) { p with O := O, oc := oc } { p with O := O, oc := oc, fv := .slice fa 0 fc } s { s with refers := [] } := by
    refine q0.head fr_set { s with refers := [] } { p with O := O, oc := oc, fv := .slice fa 0 fc } rfl ?_ q0.yo q0.oo ?_ ?_ rfl rfl rfl
    · rw [setAt_get q0.hp]; rfl
    · rcases hfr with ⟨h1, h2⟩ | ⟨g, rfl⟩
      · subst h1 h2; exact Own.nil
      · rw [fv0, W.m.rf] at fo0
        have := Own_take fo0 (m := 0) (Nat.zero_le _)
        simpa using this
    · intro j hj
      show ({ p with O := O, oc := oc } : Ph).fv.ownBlock = some j
      rw [fv0]
      rcases hfr with ⟨h1, _⟩ | ⟨g, rfl⟩
      · subst h1; simp [Value.ownBlock] at hj
      · exact hj
  have W1 := W.st.trans S1
  have B1 := W.b.stp S1 ⟨rfl, rfl⟩
  have hb1 : base ≤ (setAt hc ⟨p.H, 6, none⟩ (.slice fa 0 fc)).size := Nat.le_trans hbs2 S1.fr.size
  clear S1 l6 z6 q0 fo0 bx
  generalize setAt hc ⟨p.H, 6, none⟩ (.slice fa 0 fc) = h1 at *
  have hq : ∃ q : Ph, q = { p with O := O, oc := oc, fv := .slice fa 0 fc } := ⟨_, rfl⟩
  obtain ⟨q, hq⟩ := hq
  rw [← hq] at W1 B1
  have qH : q.H = p.H := by rw [hq]
  have qS : q.S = p.S := by rw [hq]
  have il := I.len
  have hus := I.us
  have hul := I.ul
  have hll := I.ll
  have hfrs := I.fr
  have hmu := W.m.us
  have hmf := W.m.fr
  have ob := W.m.bound I
  have ol := W.m.ol
  have bx := B1.get
  rw [qH] at bx
  have l2 : cellAt h1 ⟨p.H, 2, none⟩ = some (.int .i64 (s.used : Int)) := by have := W1.rep.h2; rw [qH] at this; exact this
  have l3 : cellAt h1 ⟨p.H, 3, none⟩ = some (.int .i64 (s.fresh : Int)) := by have := W1.rep.h3; rw [qH] at this; exact this
  have z2 : frozenAt h1 ⟨p.H, 2, none⟩ = false := by have := W1.rep.hz 2; rw [qH] at this; exact this
  have w1 : IntKind.i64.wrap ((s.used : Int) - (s.fresh : Int)) = ((s.used - s.fresh : Nat) : Int) := by rw [wrap_i64 (by omega) (by omega)]; omega
  simp (disch := first | omega | assumption) only [C.h_Minor_gos, T.tv, ↓reduceIte, Nat.reduceEqDiff, reduceCtorEq, Nat.reduceLeDiff, Nat.reducePow, Int.reducePow, Int.reduceToNat, Nat.reduceAdd, bx, l2, l3, w1]
  refine eff_store1_z T.zr_3 rfl rfl rfl rfl rfl l2 z2 ?_
  have S2 := W1.rep.used (s.used - s.fresh)
  rw [qH] at S2
  have W2 := W1.trans S2
  have B2 := B1.stp S2 ⟨rfl, rfl⟩
  clear S2 W1 B1 hb1 l2 l3 z2 bx
  generalize setAt h1 ⟨p.H, 2, none⟩ (.int .i64 ((s.used - s.fresh : Nat) : Int)) = h2 at *
  simp (disch := first | omega | assumption) only [C.h_Minor_gos, T.tv, ↓reduceIte, Nat.reduceEqDiff, reduceCtorEq, Nat.reduceLeDiff, Nat.reducePow, Int.reducePow, Int.reduceToNat, Nat.reduceAdd]
  refine loop_intro [2, 12] (fun m ρ hc => ∃ k, m = s.old.length - k ∧ s0.old.length ≤ k ∧ k ≤ s.old.length ∧ ρ = [(2, ptr b 0), (12, .int .i64 (k : Int))] ∧
    Stp base h hc p q s0 { s with refers := [], used := s.used - s.fresh + wsum ((s.old.drop s0.old.length).take (k - s0.old.length)) } ∧ Bx hc q { s with refers := [], used := s.used - s.fresh + wsum ((s.old.drop s0.old.length).take (k - s0.old.length)) } b) ?_ ?_
  · simp (disch := first | omega | assumption) only [C.h_Minor_gos, T.tv, ↓reduceIte, Nat.reduceEqDiff, reduceCtorEq, Nat.reduceLeDiff, Nat.reducePow, Int.reducePow, Int.reduceToNat, Nat.reduceAdd]
    refine ⟨_, s0.old.length, rfl, Nat.le_refl _, ol, rfl, ?_, ?_⟩
    · rw [Nat.sub_self]; exact W2
    · rw [Nat.sub_self]; exact B2
  clear W2 B2
  rintro m ρ hc1 ⟨k, rfl, hk0, hk, rfl, W3, B3⟩
  have bx := B3.get
  rw [qH] at bx
  have l1 : cellAt hc1 ⟨p.H, 1, none⟩ = some (.slice (some ⟨O, 0, none⟩) s.old.length oc) := by have := W3.rep.h1; rw [hq] at this; exact this
  have hwd : wsum (s.old.drop s0.old.length) ≤ 16386 := by
    have h1 := W.m.su CP.size (fun _ _ _ => rfl)
    have hsplit : sumF CP.size s.old = sumF CP.size (s.old.take s0.old.length) + sumF CP.size (s.old.drop s0.old.length) := by rw [← sumF_app, List.take_append_drop]
    have htk : sumF CP.size (s.old.take s0.old.length) = sumF CP.size s0.old := by
      unfold sumF
      congr 1
      apply List.ext_getElem?
      intro j
      rw [List.getElem?_map, List.getElem?_map, List.getElem?_take]
      split
      · next hj =>
        have hj2 : j < s.old.length := by omega
        have hj3 : s.old[j]? = some s.old[j] := by simp
        rcases W.m.oo j _ hj3 with ⟨_, c0, h2, h3, _⟩ | ⟨h1, _⟩
        · rw [hj3, h2]
          simp only [Option.map_some]
          rw [h3]; rfl
        · omega
      · rw [List.getElem?_eq_none (by omega)]
    unfold wsum at *
    omega
  by_cases c1 : k < s.old.length
  · have c2 : (k : Int) < (s.old.length : Int) := by omega
    have b1 : (0 : Int) ≤ (k : Int) := by omega
    obtain ⟨c, hcr⟩ : ∃ c, s.old[k]? = some c := ⟨s.old[k], by simp⟩
    obtain ⟨_, _, _, _, _, hg5⟩ := W.cell I hcr (by omega)
    have hstep : wsum ((s.old.drop s0.old.length).take (k + 1 - s0.old.length)) = wsum ((s.old.drop s0.old.length).take (k - s0.old.length)) + c.size := by
      have e : (s.old.drop s0.old.length)[k - s0.old.length]? = some c := by rw [List.getElem?_drop, show s0.old.length + (k - s0.old.length) = k by omega]; exact hcr
      rw [show k + 1 - s0.old.length = (k - s0.old.length) + 1 by omega, List.take_add_one, e]
      unfold wsum
      rw [sumF_app]
      show _ + sumF CP.size [c] = _
      rw [sumF_one]
    have htl : wsum ((s.old.drop s0.old.length).take (k + 1 - s0.old.length)) ≤ wsum (s.old.drop s0.old.length) := by
      have : wsum (s.old.drop s0.old.length) = wsum ((s.old.drop s0.old.length).take (k + 1 - s0.old.length)) + wsum ((s.old.drop s0.old.length).drop (k + 1 - s0.old.length)) := by unfold wsum; rw [← sumF_app, List.take_append_drop]
      omega
    generalize hst : ({ s with refers := [], used := s.used - s.fresh + wsum ((s.old.drop s0.old.length).take (k - s0.old.length)) } : St) = s3 at *
    have e3 : s3.used = s.used - s.fresh + wsum ((s.old.drop s0.old.length).take (k - s0.old.length)) := by rw [← hst]
    have lk : look s3 k = some c := by unfold look; rw [if_pos (by omega), ← hst]; exact hcr
    have l2 : cellAt hc1 ⟨p.H, 2, none⟩ = some (.int .i64 (s3.used : Int)) := by have := W3.rep.h2; rw [qH] at this; exact this
    have z2 : frozenAt hc1 ⟨p.H, 2, none⟩ = false := by have := W3.rep.hz 2; rw [qH] at this; exact this
    have A := size_any W3.rep lk (by omega)
    have ea : adrB q k = O := by unfold adrB; rw [if_pos (by omega), hq]
    have eo : adrO k = k * 7 := by unfold adrO; rw [if_pos (by omega)]
    rw [ea, eo] at A
    have w2 : IntKind.i64.wrap ((s3.used : Int) + (c.size : Int)) = ((s3.used + c.size : Nat) : Int) := by rw [wrap_i64 (by omega) (by omega)]; omega
    have w3 : IntKind.i64.wrap ((k : Int) + 1) = ((k + 1 : Nat) : Int) := by rw [wrap_i64 (by omega) (by omega)]; omega
    simp (disch := first | omega | assumption) only [C.h_Minor_gos, T.tv, ↓reduceIte, Nat.reduceEqDiff, reduceCtorEq, Nat.reduceLeDiff, Nat.reducePow, Int.reducePow, Int.reduceToNat, Nat.reduceAdd, bx, l1, l2, c2, b1]
    refine eff_callF rfl (A.mono ?_)
    rintro v1 h9 ⟨rfl, rfl⟩
    simp (disch := first | omega | assumption) only [C.h_Minor_gos, T.tv, ↓reduceIte, Nat.reduceEqDiff, reduceCtorEq, Nat.reduceLeDiff, Nat.reducePow, Int.reducePow, Int.reduceToNat, Nat.reduceAdd, bx, l1, l2, c2, b1, w2]
    refine eff_store1_z T.zr_3 rfl rfl rfl rfl rfl l2 z2 ?_
    have S2 := W3.rep.used (s3.used + c.size)
    rw [qH] at S2
    have W4 := W3.trans S2
    have B4 := B3.stp S2 ⟨rfl, rfl⟩
    clear S2
    simp (disch := first | omega | assumption) only [C.h_Minor_gos, T.tv, ↓reduceIte, Nat.reduceEqDiff, reduceCtorEq, Nat.reduceLeDiff, Nat.reducePow, Int.reducePow, Int.reduceToNat, Nat.reduceAdd, w3]
    have ef : ({ s3 with used := s3.used + c.size } : St) = { s with refers := [], used := s.used - s.fresh + wsum ((s.old.drop s0.old.length).take (k + 1 - s0.old.length)) } := by
      rw [hstep, ← hst]; simp only; congr 1; omega
    rw [ef] at W4 B4
    exact ⟨_, by omega, k + 1, rfl, by omega, by omega, rfl, W4, B4⟩
  · have c2 : ¬ (k : Int) < (s.old.length : Int) := by omega
    have ek : k = s.old.length := by omega
    subst ek
    have etk : (s.old.drop s0.old.length).take (s.old.length - s0.old.length) = s.old.drop s0.old.length := List.take_of_length_le (by rw [List.length_drop]; omega)
    rw [etk] at W3 B3
    generalize hst : ({ s with refers := [], used := s.used - s.fresh + wsum (s.old.drop s0.old.length) } : St) = s3 at *
    have l3 : ∃ u, cellAt hc1 ⟨p.H, 3, none⟩ = some u := ⟨_, by have := W3.rep.h3; rw [qH] at this; exact this⟩
    obtain ⟨u3, l3⟩ := l3
    have z3 : frozenAt hc1 ⟨p.H, 3, none⟩ = false := by have := W3.rep.hz 3; rw [qH] at this; exact this
    simp (disch := first | omega | assumption) only [C.h_Minor_gos, T.tv, ↓reduceIte, Nat.reduceEqDiff, reduceCtorEq, Nat.reduceLeDiff, Nat.reducePow, Int.reducePow, Int.reduceToNat, Nat.reduceAdd, bx, l1, c2]
    refine eff_store1_z T.zr_3 rfl rfl rfl rfl rfl l3 z3 ?_
    have S4 := W3.rep.fresh 0
    rw [qH] at S4
    have W4 := W3.trans S4
    have B4 := B3.stp S4 ⟨rfl, rfl⟩
    clear S4 l1 bx W3 B3 l3 z3
    generalize setAt hc1 ⟨p.H, 3, none⟩ (.int .i64 0) = h4 at *
    have eyl : s3.young.length = s.young.length := by rw [← hst]
    have myl := W.m.yl
    have bx := B4.get
    rw [qH] at bx
    have l0 : cellAt h4 ⟨p.H, 0, none⟩ = some (.slice (some ⟨q.Y, 0, none⟩) s3.young.length q.yc) := by have := W4.rep.h0; rw [qH] at this; exact this
    simp (disch := first | omega | assumption) only [C.h_Minor_gos, T.tv, ↓reduceIte, Nat.reduceEqDiff, reduceCtorEq, Nat.reduceLeDiff, Nat.reducePow, Int.reducePow, Int.reduceToNat, Nat.reduceAdd, bx, l0]
    obtain ⟨hyl, hy0⟩ := W4.rep.yo
    rcases hy0 with ⟨hv, _⟩ | ⟨g', cap, cur, fz, hv, hyb, hyg, hyfz, hync, hycm, hycs, hytk⟩
    · cases hv
    cases hv
    have hmul : s3.young.length * 7 ≤ q.yc * 7 := Nat.mul_le_mul_right _ hync
    refine eff_clear T.slT_67 T.zr_85 rfl hyg (by rw [hycs]; omega) (fun j _ hj => hyfz j (by omega)) (one_row nul) ?_
    intro h5 f5 e5 g5
    have O5 : Own h5 base 85 7 (.slice (some ⟨q.Y, 0, none⟩) s3.young.length q.yc) s3.young.length (rows (List.replicate s3.young.length nul)) := by
      refine ⟨by rw [rows_len, List.length_replicate], .inr ⟨q.Y, q.yc, _, fz, rfl, hyb, g5, hyfz, hync, hycm, ?_, ?_⟩⟩
      · have := zero_rows s3.young.length
        show (cur.toList.take 0 ++ (Builtin.zeroCells nul.row.toArray s3.young.length).toList ++ cur.toList.drop (0 + s3.young.length * 7)).toArray.size = _
        rw [this]
        simp only [List.size_toArray, List.length_append, List.length_take, List.length_drop, rows_len, List.length_replicate, Array.length_toList]
        omega
      · show (cur.toList.take 0 ++ (Builtin.zeroCells nul.row.toArray s3.young.length).toList ++ cur.toList.drop (0 + s3.young.length * 7)).toArray.toList.take (s3.young.length * 7) = _
        rw [zero_rows]
        simp only [List.take_zero, List.nil_append]
        rw [List.take_append_of_le_length (by rw [rows_len, List.length_replicate]; exact Nat.le_refl _), List.take_of_length_le (by rw [rows_len, List.length_replicate]; exact Nat.le_refl _)]
    have S5 := W4.rep.setYoung (l := List.replicate s3.young.length nul) f5 (by simp) O5
    have W5 := W4.trans S5
    have B5 := B4.stp S5 Pk.refl
    clear S5 l0 bx hyl hyb hyg hytk W4 B4
    have bx := B5.get
    rw [qH] at bx
    have l0 : cellAt h5 ⟨p.H, 0, none⟩ = some (.slice (some ⟨q.Y, 0, none⟩) s3.young.length q.yc) := by
      have := W5.rep.h0; rw [qH] at this
      simpa using this
    have z0 : frozenAt h5 ⟨p.H, 0, none⟩ = false := by have := W5.rep.hz 0; rw [qH] at this; exact this
    have b1 : (1 : Int) ≤ (q.yc : Int) := by omega
    have hsl : slA (some ⟨q.Y, 0, none⟩) q.yc 0 7 = some ⟨q.Y, 0, none⟩ := by
      unfold slA; split <;> rfl
    simp (disch := first | omega | assumption) only [C.h_Minor_gos, T.tv, ↓reduceIte, Nat.reduceEqDiff, reduceCtorEq, Nat.reduceLeDiff, Nat.reducePow, Int.reducePow, Int.reduceToNat, Nat.reduceAdd, bx, l0, b1, hsl, Nat.sub_zero, Int.reduceLE]
    refine eff_store1_z T.zr_67 rfl rfl rfl rfl rfl l0 z0 ?_
    have r5 := W5.rep
    have S6 : Stp base h5 (setAt h5 ⟨p.H, 0, none⟩ (.slice (some ⟨q.Y, 0, none⟩) 1 q.yc)) q q { s3 with fresh := 0, young := List.replicate s3.young.length nul } { s3 with fresh := 0, young := [nul] } := by
      refine r5.head (by rw [qH]; exact fr_set) { s3 with fresh := 0, young := [nul] } q rfl ?_ ?_ r5.oo r5.fo (fun _ hk => hk) rfl rfl rfl
      · rw [qH]
        have := r5.hp
        rw [qH] at this
        rw [setAt_get this]; rfl
      · have hy := r5.yo
        simp only [List.length_replicate] at hy
        have h1 := Own_take hy (m := 1) (by omega)
        rw [rows_take, List.take_replicate, Nat.min_eq_left (by omega)] at h1
        exact h1
    have W6 := W5.trans S6
    have ef : ({ s3 with fresh := 0, young := [nul] } : St) = finM s s0.old.length := by rw [← hst]; rfl
    rw [ef] at W6
    simp (disch := first | omega | assumption) only [C.h_Minor_gos, T.tv, ↓reduceIte, Nat.reduceEqDiff, reduceCtorEq, Nat.reduceLeDiff, Nat.reducePow, Int.reducePow, Int.reduceToNat, Nat.reduceAdd]
    have F := fin_law I S W.m (fun x hx => by
      obtain ⟨j, hj⟩ := List.getElem?_of_mem hx
      have hjl := (List.getElem?_eq_some_iff.1 hj).1
      rw [W.m.rr, I.rt] at hjl
      exact hdr j hjl x hj) (fun k c hk x hx => hdc k (List.getElem?_eq_some_iff.1 hk).1 c hk x hx) (fun k c hk => by
      rcases W.m.oo k c hk with ⟨h1, _⟩ | ⟨_, i, ci, _, _, h4⟩
      · exact hsn k c h1 hk
      · rw [h4])
    exact ⟨q, _, W6, ⟨qS, qH⟩, F.1, F.2, rfl, rfl, W.m.li, W.m.ro⟩
set_option maxHeartbeats 2000000 in
theorem Minor_any {base : Nat} {h : Heap} {p : Ph} {s0 : St} {a : AS} (R : Rep base h p s0) (I : Inv s0) (S : Sim s0 a) (hbs : base ≤ h.size) :
    HCalls Try.prog 28 #[ptr p.H 0, .iface 26 (ptr p.S 0)] h fun v h' => ∃ p' s', Stp base h h' p p' s0 s' ∧ Pk p p' ∧ Inv s' ∧ Sim s' a ∧ s'.young = [nul] ∧ s'.refers = [] ∧ s'.limit = s0.limit ∧ s'.room = s0.room := by
  refine C.h_Minor_calls (args := [ptr p.H 0, .iface 26 (ptr p.S 0)]) rfl ?_
  simp (disch := first | omega | assumption) only [C.h_Minor_gos, T.tv, ↓reduceIte, Nat.reduceEqDiff, reduceCtorEq, Nat.reduceLeDiff, Nat.reducePow, Int.reducePow, Int.reduceToNat, Nat.reduceAdd]
  refine eff_box ?_
  have B0 := Bx.new R
  have X0 := Ext.push h (.cells #[ptr p.H 0] 49 (0, 0))
  have R0 := R.ext X0
  obtain ⟨b, hb⟩ : ∃ b, b = h.size := ⟨_, rfl⟩
  have W0 : MW base h p s0 b (h.push (.cells #[ptr p.H 0] 49 (0, 0))) p.O p.oc s0 := ⟨Stp.pre X0 (Stp.refl R0), MInv.refl I, by rw [hb]; exact B0⟩
  have hbs0 : base ≤ (h.push (.cells #[ptr p.H 0] 49 (0, 0))).size := Nat.le_trans hbs X0.size
  simp (disch := first | omega | assumption) only [C.h_Minor_gos, T.tv, ↓reduceIte, Nat.reduceEqDiff, reduceCtorEq, Nat.reduceLeDiff, Nat.reducePow, Int.reducePow, Int.reduceToNat, Nat.reduceAdd]
  rw [← hb]
  generalize h.push (.cells #[ptr p.H 0] 49 (0, 0)) = h1 at *
  have bx := W0.b.get
  have l1 := R0.h1
  simp (disch := first | omega | assumption) only [C.h_Minor_gos, T.tv, ↓reduceIte, Nat.reduceEqDiff, reduceCtorEq, Nat.reduceLeDiff, Nat.reducePow, Int.reducePow, Int.reduceToNat, Nat.reduceAdd, bx, l1]
  refine eff_invoke mt_sp rfl rfl ?_
  have E := each_any (S := p.S) (g := 45) (cap := #[ptr b 0]) (h := h1) (Q := fun k hc => ∃ O oc s, MW base h p s0 b hc O oc s ∧ (∀ j, j < k → Dn s (.root j)) ∧ base ≤ hc.size) T.able_45
    ⟨p.O, p.oc, s0, W0, fun j hj => by omega, hbs0⟩ (by
      rintro k hc hk ⟨O, oc, s, W, hd, hb1⟩
      have hl : getL s (.root k) = some (s.roots[k]'(by rw [W.m.rr, I.rt]; exact hk)) := by simp [getL]
      refine (W.turn I hb1 hl (W.vld I hl (root_valid I k))).mono ?_
      rintro v h' ⟨O', oc', s', W', d1, d2, _, hb2, _⟩
      refine ⟨O', oc', s', W', fun j hj => ?_, hb2⟩
      by_cases e : j = k
      · subst e; exact d1
      · exact d2 _ (hd j (by omega)))
  refine E.mono ?_
  clear E
  rintro v h2 ⟨O, oc, s, W, hdr, hbs2⟩
  clear W0 hbs0 bx l1 R0 X0 B0
  obtain ⟨fa, fc, hfv, hfr⟩ : ∃ fa fc, p.fv = .slice fa s0.refers.length fc ∧ (s0.refers.length = 0 ∨ ∃ g, fa = some ⟨g, 0, none⟩) := by
    rcases R.fo.rd with ⟨h1, h2, _⟩ | ⟨g, c, h1, _⟩
    · exact ⟨none, 0, by rw [h1, h2], .inl h2⟩
    · exact ⟨_, c, h1, .inr ⟨g, rfl⟩⟩
  have bx := W.b.get
  have l6 : cellAt h2 ⟨p.H, 6, none⟩ = some p.fv := W.st.rep.h6
  rw [hfv] at l6
  simp (disch := first | omega | assumption) only [C.h_Minor_gos, T.tv, ↓reduceIte, Nat.reduceEqDiff, reduceCtorEq, Nat.reduceLeDiff, Nat.reducePow, Int.reducePow, Int.reduceToNat, Nat.reduceAdd, bx, l6]
  refine loop_intro [2, 4, 5, 25, 26, 27] (fun m ρ hc => ∃ i O oc s, m = s0.refers.length - i ∧ i ≤ s0.refers.length ∧ ρ = [(2, ptr b 0), (4, .int .i64 (s0.old.length : Int)), (5, .func (.func 45) #[] #[ptr b 0]), (25, .slice fa s0.refers.length fc), (26, .int .i64 (s0.refers.length : Int)), (27, .int .i64 (i : Int))] ∧
    MW base h p s0 b hc O oc s ∧ base ≤ hc.size ∧ (∀ j, j < 16 → Dn s (.root j)) ∧ (∀ j r, j < i → s0.refers[j]? = some r → DnC s r ∧ ∀ c, s.old[r]? = some c → c.seen = false)) ?_ ?_
  · simp (disch := first | omega | assumption) only [C.h_Minor_gos, T.tv, ↓reduceIte, Nat.reduceEqDiff, reduceCtorEq, Nat.reduceLeDiff, Nat.reducePow, Int.reducePow, Int.reduceToNat, Nat.reduceAdd]
    exact ⟨_, 0, O, oc, s, rfl, Nat.zero_le _, rfl, W, hbs2, hdr, fun j r hj => by omega⟩
  clear W hbs2 hdr bx l6
  rintro m ρ hc ⟨i, O, oc, s, rfl, hi, rfl, W, hbs2, hdr, hds⟩
  have bx := W.b.get
  by_cases c1 : i < s0.refers.length
  · obtain ⟨g, rfl⟩ : ∃ g, fa = some ⟨g, 0, none⟩ := by
      rcases hfr with h | h
      · omega
      · exact h
    have hr : s0.refers[i]? = some s0.refers[i] := by simp
    have hrm := I.rf s0.refers[i] (by simp)
    generalize s0.refers[i] = r at hr hrm
    have fo := W.st.rep.fo
    have l7 : cellAt hc ⟨g, i, none⟩ = some (refV r) := by
      have fo' : Own hc base 51 1 (.slice (some ⟨g, 0, none⟩) s.refers.length fc) s.refers.length (s.refers.map refV) := by
        have e : ({ p with O := O, oc := oc } : Ph).fv = .slice (some ⟨g, 0, none⟩) s.refers.length fc := by rw [W.m.rf]; exact hfv
        rw [← e]; exact fo
      exact Own_at fo' (by rw [List.getElem?_map, W.m.rf, hr]; rfl)
    have c2 : (i : Int) < (s0.refers.length : Int) := by omega
    have b1 : (0 : Int) ≤ (i : Int) := by omega
    have ol := W.m.ol
    have l1 : cellAt hc ⟨p.H, 1, none⟩ = some (.slice (some ⟨O, 0, none⟩) s.old.length oc) := W.st.rep.h1
    have b2 : (0 : Int) ≤ (r : Int) := by omega
    have b3 : (r : Int) < (s.old.length : Int) := by omega
    simp (disch := first | omega | assumption) only [C.h_Minor_gos, T.tv, ↓reduceIte, Nat.reduceEqDiff, reduceCtorEq, Nat.reduceLeDiff, Nat.reducePow, Int.reducePow, Int.reduceToNat, Nat.reduceAdd, c2, b1, l7, bx, l1, refV, b2, b3]
    obtain ⟨c, hcr⟩ : ∃ c, s.old[r]? = some c := ⟨s.old[r]'(by omega), by simp⟩
    have lk : look s r = some c := by unfold look; rw [if_pos (by have := W.m.bound I; omega)]; exact hcr
    have c6 : cellAt hc ⟨O, r * 7 + 6, none⟩ = some (.bool c.seen) := Own_at W.st.rep.oo (by rw [rows_get hcr (by decide)]; rfl)
    have z6 : frozenAt hc ⟨O, r * 7 + 6, none⟩ = false := (Own_cell W.st.rep.oo (p := r * 7 + 6) (by omega)).2.1
    refine eff_store1_z T.zr_4 rfl rfl rfl rfl rfl c6 z6 ?_
    obtain ⟨W1, u1, u2, u3, u4⟩ := W.unsee hcr hrm.2
    have hb3 : base ≤ (setAt hc ⟨O, r * 7 + 6, none⟩ (.bool false)).size := by rw [setAt_size]; exact hbs2
    have hd1 : ∀ j, j < 16 → Dn { s with old := s.old.set r { c with seen := false } } (.root j) := fun j hj => u1 _ (hdr j hj)
    have hd2 : ∀ j q, j < i → s0.refers[j]? = some q → DnC { s with old := s.old.set r { c with seen := false } } q ∧ ∀ d, (s.old.set r { c with seen := false })[q]? = some d → d.seen = false := fun j q hj hq => by
      obtain ⟨a1, a2⟩ := hds j q hj hq
      refine ⟨u2 q a1, fun d hd => ?_⟩
      rcases u4 q d hd with h | h
      · exact h.2
      · exact a2 d h
    clear W hdr hds fo l7 l1 c6 z6 u1 u2 u4 lk bx
    generalize setAt hc ⟨O, r * 7 + 6, none⟩ (.bool false) = hc1 at *
    generalize hst : ({ s with old := s.old.set r { c with seen := false } } : St) = s1 at *
    have hcr1 : s1.old[r]? = some { c with seen := false } := by rw [← hst]; exact u3
    have eold : s1.old = s.old.set r { c with seen := false } := by rw [← hst]
    rw [← eold] at hd2
    clear u3 hst hcr eold
    generalize hcc : ({ c with seen := false } : CP) = c1' at *
    have hsn : c1'.seen = false := by rw [← hcc]
    clear hcc
    obtain ⟨gg, hg1, hg2, hg3, hg4, hg5⟩ := W1.cell I hcr1 hrm.1
    have hrl : r < s1.old.length := (List.getElem?_eq_some_iff.1 hcr1).1
    have bx := W1.b.get
    have l1 : cellAt hc1 ⟨p.H, 1, none⟩ = some (.slice (some ⟨O, 0, none⟩) s1.old.length oc) := W1.st.rep.h1
    have b3 : (r : Int) < (s1.old.length : Int) := by omega
    have l3 : cellAt hc1 ⟨O, r * 7 + 3, none⟩ = some (sv c1'.rg c1'.rn) := Own_at W1.st.rep.oo (by rw [rows_get hcr1 (by decide)]; rfl)
    simp (disch := first | omega | assumption) only [C.h_Minor_gos, T.tv, ↓reduceIte, Nat.reduceEqDiff, reduceCtorEq, Nat.reduceLeDiff, Nat.reducePow, Int.reducePow, Int.reduceToNat, Nat.reduceAdd, bx, l1, b2, b3, l3, sv, hg1]
    refine loop_intro [2, 4, 5, 7, 25, 26, 27, 46, 47] (fun m ρ hc => ∃ k O oc s, m = c1'.rn - k ∧ k ≤ c1'.rn ∧ ρ = [(2, ptr b 0), (4, .int .i64 (s0.old.length : Int)), (5, .func (.func 45) #[] #[ptr b 0]), (7, .int .u32 (r : Int)), (25, .slice (some ⟨g, 0, none⟩) s0.refers.length fc), (26, .int .i64 (s0.refers.length : Int)), (27, .int .i64 (i : Int)), (46, .int .i64 (c1'.rn : Int)), (47, .int .i64 (k : Int))] ∧
      MW base h p s0 b hc O oc s ∧ base ≤ hc.size ∧ (∀ j, j < 16 → Dn s (.root j)) ∧ (∀ j q, j < i → s0.refers[j]? = some q → DnC s q ∧ ∀ c, s.old[q]? = some c → c.seen = false) ∧ s.old[r]? = some c1' ∧ (rl s c1').length = c1'.rn ∧ (∀ j, j < k → Dn s (.ref gg j))) ?_ ?_
    · simp (disch := first | omega | assumption) only [C.h_Minor_gos, T.tv, ↓reduceIte, Nat.reduceEqDiff, reduceCtorEq, Nat.reduceLeDiff, Nat.reducePow, Int.reducePow, Int.reduceToNat, Nat.reduceAdd]
      exact ⟨_, 0, O, oc, s1, rfl, Nat.zero_le _, rfl, W1, hb3, hd1, hd2, hcr1, hg4, fun j hj => by omega⟩
    clear W1 hb3 hd1 hd2 hcr1 hg4 hg2 bx l1 b3 l3 hrl
    rintro m ρ hc2 ⟨k, O, oc, s, rfl, hk, rfl, W, hb3, hd1, hd2, hcr1, hg4, hd3⟩
    have bx := W.b.get
    by_cases c3 : k < c1'.rn
    · have hrl : r < s.old.length := (List.getElem?_eq_some_iff.1 hcr1).1
      have l1 : cellAt hc2 ⟨p.H, 1, none⟩ = some (.slice (some ⟨O, 0, none⟩) s.old.length oc) := W.st.rep.h1
      have b3 : (r : Int) < (s.old.length : Int) := by omega
      have l3 : cellAt hc2 ⟨O, r * 7 + 3, none⟩ = some (sv c1'.rg c1'.rn) := Own_at W.st.rep.oo (by rw [rows_get hcr1 (by decide)]; rfl)
      have c4 : (k : Int) < (c1'.rn : Int) := by omega
      have b4 : (0 : Int) ≤ (k : Int) := by omega
      have b5 : c1'.rn ≤ 16386 := by unfold CP.size at hg5; omega
      have w : IntKind.i64.wrap ((k : Int) + 1) = ((k + 1 : Nat) : Int) := by rw [wrap_i64 (by omega) (by omega)]; omega
      obtain ⟨_, hgg, hg2, _⟩ := W.cell I hcr1 hrm.1
      rw [hg1] at hgg; cases hgg
      obtain ⟨x, hx⟩ := hg2 k c3
      simp (disch := first | omega | assumption) only [C.h_Minor_gos, T.tv, ↓reduceIte, Nat.reduceEqDiff, reduceCtorEq, Nat.reduceLeDiff, Nat.reducePow, Int.reducePow, Int.reduceToNat, Nat.reduceAdd, c4, b4, bx, l1, b2, b3, l3, sv, hg1]
      refine eff_callC rfl rfl T.able_45 ((W.turn I hb3 hx (W.vld I hx (hg3 k))).mono ?_)
      rintro v h' ⟨O', oc', s', W', d1, d2, d3, hb4, d4⟩
      simp (disch := first | omega | assumption) only [C.h_Minor_gos, T.tv, ↓reduceIte, Nat.reduceEqDiff, reduceCtorEq, Nat.reduceLeDiff, Nat.reducePow, Int.reducePow, Int.reduceToNat, Nat.reduceAdd, w]
      have hcr2 := d3 r c1' hcr1
      obtain ⟨_, hgg, _, _, hg4', _⟩ := W'.cell I hcr2 hrm.1
      have hlt : ∀ (j q : Nat), j < i → s0.refers[j]? = some q → q < s.old.length := fun j q _ hq => by
        have := (I.rf q (List.mem_of_getElem? hq)).2
        have := W.m.ol
        omega
      refine ⟨_, by omega, k + 1, O', oc', s', rfl, by omega, rfl, W', hb4, fun j hj => d2 _ (hd1 j hj), fun j q hj hq => ?_, hcr2, hg4', fun j hj => ?_⟩
      · obtain ⟨a1, a2⟩ := hd2 j q hj hq
        refine ⟨d4 q a1 (hlt j q hj hq), fun d hd => ?_⟩
        have hqd : s.old[q]? = some (s.old[q]'(hlt j q hj hq)) := by simp
        have := d3 q _ hqd
        rw [hd] at this; cases this
        exact a2 _ hqd
      · by_cases e : j = k
        · subst e; exact d1
        · exact d2 _ (hd3 j (by omega))
    · have c4 : ¬ (k : Int) < (c1'.rn : Int) := by omega
      have hbl := I.len
      have w : IntKind.i64.wrap ((i : Int) + 1) = ((i + 1 : Nat) : Int) := by rw [wrap_i64 (by omega) (by omega)]; omega
      simp (disch := first | omega | assumption) only [C.h_Minor_gos, T.tv, ↓reduceIte, Nat.reduceEqDiff, reduceCtorEq, Nat.reduceLeDiff, Nat.reducePow, Int.reducePow, Int.reduceToNat, Nat.reduceAdd, c4, w]
      refine ⟨_, by omega, i + 1, O, oc, s, rfl, by omega, rfl, W, hb3, hd1, fun j q hj hq => ?_⟩
      by_cases e : j = i
      · subst e
        rw [hr] at hq; cases hq
        refine ⟨DnC_of hcr1 hg1 fun j hj => hd3 j (by omega), fun d hd => ?_⟩
        rw [hcr1] at hd; cases hd; exact hsn
      · exact hd2 j q (by omega) hq
  · have c2 : ¬ (i : Int) < (s0.refers.length : Int) := by omega
    have ei : i = s0.refers.length := by omega
    subst ei
    have hre := W.rest I hds
    clear hds hi bx
    have il := I.len
    simp (disch := first | omega | assumption) only [C.h_Minor_gos, T.tv, ↓reduceIte, Nat.reduceEqDiff, reduceCtorEq, Nat.reduceLeDiff, Nat.reducePow, Int.reducePow, Int.reduceToNat, Nat.reduceAdd, c2]
    refine loop_intro [2, 4, 5, 9] (fun m ρ hc => ∃ k O oc s, m = 8195 - k ∧ s0.old.length ≤ k ∧ k ≤ s.old.length ∧ ρ = [(2, ptr b 0), (4, .int .i64 (s0.old.length : Int)), (5, .func (.func 45) #[] #[ptr b 0]), (9, .int .i64 (k : Int))] ∧
      MW base h p s0 b hc O oc s ∧ base ≤ hc.size ∧ (∀ j, j < 16 → Dn s (.root j)) ∧ (∀ j, j < k → DnC s j) ∧ (∀ (j : Nat) c, j < s0.old.length → s.old[j]? = some c → c.seen = false)) ?_ ?_
    · simp (disch := first | omega | assumption) only [C.h_Minor_gos, T.tv, ↓reduceIte, Nat.reduceEqDiff, reduceCtorEq, Nat.reduceLeDiff, Nat.reducePow, Int.reducePow, Int.reduceToNat, Nat.reduceAdd]
      exact ⟨_, s0.old.length, O, oc, s, rfl, Nat.le_refl _, W.m.ol, rfl, W, hbs2, hdr, fun j hj => (hre j hj).1, fun j c hj hc => (hre j hj).2 c hc⟩
    clear W hbs2 hdr hre c1 c2
    rintro m ρ hc ⟨k, O, oc, s, rfl, hk0, hk, rfl, W, hbs2, hdr, hdc, hsn⟩
    have bx := W.b.get
    have ob := W.m.bound I
    have l1 : cellAt hc ⟨p.H, 1, none⟩ = some (.slice (some ⟨O, 0, none⟩) s.old.length oc) := W.st.rep.h1
    by_cases c1 : k < s.old.length
    · have c2 : (k : Int) < (s.old.length : Int) := by omega
      have b1 : (0 : Int) ≤ (k : Int) := by omega
      obtain ⟨c, hcr⟩ : ∃ c, s.old[k]? = some c := ⟨s.old[k], by simp⟩
      have l3 : cellAt hc ⟨O, k * 7 + 3, none⟩ = some (sv c.rg c.rn) := Own_at W.st.rep.oo (by rw [rows_get hcr (by decide)]; rfl)
      obtain ⟨gg, hg1, hg2, hg3, hg4, hg5⟩ := W.cell I hcr (by omega)
      have b5 : c.rn ≤ 16386 := by unfold CP.size at hg5; omega
      simp (disch := first | omega | assumption) only [C.h_Minor_gos, T.tv, ↓reduceIte, Nat.reduceEqDiff, reduceCtorEq, Nat.reduceLeDiff, Nat.reducePow, Int.reducePow, Int.reduceToNat, Nat.reduceAdd, c2, b1, bx, l1, l3, sv, hg1]
      refine loop_intro [2, 4, 5, 9, 10, 83, 84] (fun m ρ hc => ∃ i O oc s, m = c.rn - i ∧ i ≤ c.rn ∧ ρ = [(2, ptr b 0), (4, .int .i64 (s0.old.length : Int)), (5, .func (.func 45) #[] #[ptr b 0]), (9, .int .i64 (k : Int)), (10, .slice (some ⟨gg, 0, none⟩) c.rn c.rn), (83, .int .i64 (c.rn : Int)), (84, .int .i64 (i : Int))] ∧
        MW base h p s0 b hc O oc s ∧ base ≤ hc.size ∧ (∀ j, j < 16 → Dn s (.root j)) ∧ (∀ j, j < k → DnC s j) ∧ (∀ (j : Nat) c, j < s0.old.length → s.old[j]? = some c → c.seen = false) ∧ s.old[k]? = some c ∧ (∀ j, j < i → Dn s (.ref gg j))) ?_ ?_
      · simp (disch := first | omega | assumption) only [C.h_Minor_gos, T.tv, ↓reduceIte, Nat.reduceEqDiff, reduceCtorEq, Nat.reduceLeDiff, Nat.reducePow, Int.reducePow, Int.reduceToNat, Nat.reduceAdd]
        exact ⟨_, 0, O, oc, s, rfl, Nat.zero_le _, rfl, W, hbs2, hdr, hdc, hsn, hcr, fun j hj => by omega⟩
      clear W hbs2 hdr hdc hsn hcr bx l1 l3 hg4 hg2 c1 c2 ob hk
      rintro m ρ hc2 ⟨i, O, oc, s, rfl, hi, rfl, W, hb3, hd1, hd2, hd4, hcr1, hd3⟩
      have bx := W.b.get
      have ob := W.m.bound I
      have hkl := (List.getElem?_eq_some_iff.1 hcr1).1
      by_cases c3 : i < c.rn
      · have c4 : (i : Int) < (c.rn : Int) := by omega
        have b4 : (0 : Int) ≤ (i : Int) := by omega
        have w : IntKind.i64.wrap ((i : Int) + 1) = ((i + 1 : Nat) : Int) := by rw [wrap_i64 (by omega) (by omega)]; omega
        obtain ⟨_, hgg, hg2, _⟩ := W.cell I hcr1 (by omega)
        rw [hg1] at hgg; cases hgg
        obtain ⟨x, hx⟩ := hg2 i c3
        simp (disch := first | omega | assumption) only [C.h_Minor_gos, T.tv, ↓reduceIte, Nat.reduceEqDiff, reduceCtorEq, Nat.reduceLeDiff, Nat.reducePow, Int.reducePow, Int.reduceToNat, Nat.reduceAdd, c4, b4, bx]
        refine eff_callC rfl rfl T.able_45 ((W.turn I hb3 hx (W.vld I hx (hg3 i))).mono ?_)
        rintro v h' ⟨O', oc', s', W', d1, d2, d3, hb4, d4⟩
        simp (disch := first | omega | assumption) only [C.h_Minor_gos, T.tv, ↓reduceIte, Nat.reduceEqDiff, reduceCtorEq, Nat.reduceLeDiff, Nat.reducePow, Int.reducePow, Int.reduceToNat, Nat.reduceAdd, w]
        have hcr2 := d3 k c hcr1
        refine ⟨_, by omega, i + 1, O', oc', s', rfl, by omega, rfl, W', hb4, fun j hj => d2 _ (hd1 j hj), fun j hj => d4 j (hd2 j hj) (by omega), fun j d hj hd => ?_, hcr2, fun j hj => ?_⟩
        · have hjl : j < s.old.length := by have := W.m.ol; omega
          have hqd : s.old[j]? = some s.old[j] := by simp
          have := d3 j _ hqd
          rw [hd] at this; cases this
          exact hd4 j _ hj hqd
        · by_cases e : j = i
          · subst e; exact d1
          · exact d2 _ (hd3 j (by omega))
      · have c4 : ¬ (i : Int) < (c.rn : Int) := by omega
        have w : IntKind.i64.wrap ((k : Int) + 1) = ((k + 1 : Nat) : Int) := by rw [wrap_i64 (by omega) (by omega)]; omega
        obtain ⟨_, _, _, _, hg4, _⟩ := W.cell I hcr1 (by omega)
        simp (disch := first | omega | assumption) only [C.h_Minor_gos, T.tv, ↓reduceIte, Nat.reduceEqDiff, reduceCtorEq, Nat.reduceLeDiff, Nat.reducePow, Int.reducePow, Int.reduceToNat, Nat.reduceAdd, c4, w]
        refine ⟨_, by omega, k + 1, O, oc, s, rfl, by omega, by omega, rfl, W, hb3, hd1, fun j hj => ?_, hd4⟩
        by_cases e : j = k
        · subst e
          exact DnC_of hcr1 hg1 fun j hj => hd3 j (by omega)
        · exact hd2 j (by omega)
    · have c2 : ¬ (k : Int) < (s.old.length : Int) := by omega
      simp (disch := first | omega | assumption) only [C.h_Minor_gos, T.tv, ↓reduceIte, Nat.reduceEqDiff, reduceCtorEq, Nat.reduceLeDiff, Nat.reducePow, Int.reducePow, Int.reduceToNat, Nat.reduceAdd, c2, bx, l1]
      exact Minor_end R I S hbs hb W hbs2 hdr (fun j hj => hdc j (by omega)) hsn
end Go.Proofs.Ytidkokdkldfglaa

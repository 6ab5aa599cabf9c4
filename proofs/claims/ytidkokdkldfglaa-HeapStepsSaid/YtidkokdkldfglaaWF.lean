/- The reference's collector. No condition. -/
import Derived.Test.YtidkokdkldfglaaWE
namespace Go.Proofs.Ytidkokdkldfglaa
open Go.Vc
set_option maxRecDepth 100000
set_option linter.unusedSimpArgs false
set_option linter.unusedVariables false

/-- The words counted before place i. -/
def usT (a : AS) (sl : List Bool) (i : Nat) : Nat := (((List.range i).filter fun j => sl.getD j false).map (aszN a)).sum
theorem usT_one {a : AS} {sl : List Bool} {i : Nat} {b : Bool} (hb : sl[i]? = some b) : usT a sl (i + 1) = usT a sl i + (if b then aszN a i else 0) := by
  unfold usT
  rw [List.range_succ, List.filter_append, List.map_append, List.sum_append]
  have : sl.getD i false = b := by rw [List.getD_eq_getElem?_getD, hb]; rfl
  simp only [List.filter_cons, List.filter_nil, this]
  cases b <;> simp
/-- Which are seen: those that can be reached. -/
def SeenOk (a : AS) (sl : List Bool) : Prop := sl.length = a.things.length ∧ ∀ (t : Nat) c, sl[t]? = some c → (c = true ↔ t ≠ 0 ∧ AR a t)
theorem SeenOk.mem {a : AS} {sl : List Bool} (H : SeenOk a sl) {j : Nat} : sl.getD j false = true → j ≠ 0 ∧ AR a j := by
  intro h
  rw [List.getD_eq_getElem?_getD] at h
  cases hx : sl[j]? with
  | none => rw [hx] at h; cases h
  | some b =>
    rw [hx] at h
    exact (H.2 j b hx).1 h
theorem SeenOk.total {a : AS} (I : AInv a) {sl : List Bool} (H : SeenOk a sl) : Total a (usT a sl a.things.length) := by
  refine ⟨_, List.Pairwise.filter _ List.nodup_range, fun t => ?_, rfl⟩
  rw [List.mem_filter, List.mem_range]
  constructor
  · exact fun h => H.mem h.2
  · intro h
    have hl := h.2.lt I
    refine ⟨hl, ?_⟩
    have e : sl[t]? = some (sl[t]'(by rw [H.1]; exact hl)) := by simp
    rw [List.getD_eq_getElem?_getD, e]
    exact (H.2 t _ e).2 h
theorem SeenOk.le {a : AS} {sl : List Bool} (H : SeenOk a sl) {n : Nat} (T : Total a n) (i : Nat) : usT a sl i ≤ n := by
  obtain ⟨l, h1, h2, rfl⟩ := T
  exact sum_sub (List.Pairwise.filter _ List.nodup_range) fun t ht => (h2 t).2 (H.mem (List.mem_filter.1 ht).2)
/-- How far the sweep has come. -/
structure Swp (m : Ms) (sl : List Bool) (i : Nat) (L' : List TP) : Prop where
  len : L'.length = m.L.length
  lo : ∀ (j : Nat) c, j < i → L'[j]? = some c → (sl[j]? = some true ∧ m.L[j]? = some c) ∨ (sl[j]? = some false ∧ c = gone3)
  hi : ∀ (j : Nat), i ≤ j → L'[j]? = m.L[j]?
theorem Swp.zero {m : Ms} {sl : List Bool} : Swp m sl 0 m.L := ⟨rfl, fun j c h => by omega, fun j _ => rfl⟩
theorem Swp.keep {m : Ms} {sl : List Bool} {i : Nat} {L' : List TP} (W : Swp m sl i L') (hs : sl[i]? = some true) : Swp m sl (i + 1) L' :=
  ⟨W.len, fun j c hj hc => by
    by_cases e : j = i
    · subst e
      exact .inl ⟨hs, by rw [← W.hi j (Nat.le_refl _)]; exact hc⟩
    · exact W.lo j c (by omega) hc, fun j hj => W.hi j (by omega)⟩
theorem Swp.drop {m : Ms} {sl : List Bool} {i : Nat} {L' : List TP} (W : Swp m sl i L') (hs : sl[i]? = some false) : Swp m sl (i + 1) (L'.set i gone3) :=
  ⟨by rw [List.length_set]; exact W.len, fun j c hj hc => by
    rw [List.getElem?_set] at hc
    by_cases e : i = j
    · subst e
      rw [if_pos rfl] at hc
      split at hc
      · cases hc; exact .inr ⟨hs, rfl⟩
      · cases hc
    · rw [if_neg e] at hc; exact W.lo j c (by omega) hc, fun j hj => by
    rw [List.getElem?_set, if_neg (by omega)]; exact W.hi j (by omega)⟩
theorem RI.swept {m : Ms} {a : AS} (I : RI m a) {sl : List Bool} (H : SeenOk a sl) {L' : List TP} (W : Swp m sl m.L.length L') : RI { m with L := L', used := usT a sl m.L.length } a := by
  have T := H.total I.ai
  rw [← I.len] at T
  have key : ∀ (k : Nat) c, L'[k]? = some c → (sl[k]? = some true ∧ m.L[k]? = some c) ∨ (sl[k]? = some false ∧ c = gone3) := fun k c hc => W.lo k c (by rw [← W.len]; exact (List.getElem?_eq_some_iff.1 hc).1) hc
  have old : ∀ (k : Nat) c, L'[k]? = some c → c.gone = false → m.L[k]? = some c := fun k c hc hg => by
    rcases key k c hc with h | h
    · exact h.2
    · rw [h.2] at hg; cases hg
  refine ⟨I.ai, by show L'.length = _; rw [W.len]; exact I.len, I.ro, I.li, I.ll, fun k c th h0 hc ht hg => I.th k c th h0 (old k c hc hg) ht hg, fun k c h0 hc hg hr => ?_, fun c hc => ?_,
    fun i j c d g hi hj hc hd hcg hdg h1 h2 => I.dr i j c d g hi hj (old i c hc hcg) (old j d hd hdg) hcg hdg h1 h2, fun i j c d g hi hj hc hd hcg hdg h1 h2 => I.dw i j c d g hi hj (old i c hc hcg) (old j d hd hdg) hcg hdg h1 h2, ⟨_, T, Nat.le_refl _⟩, ?_⟩
  · rcases key k c hc with h | h
    · exact I.gn k c h0 h.2 hg hr
    · have := (H.2 k false h.1).2 ⟨h0, hr⟩; cases this
  · rcases key 0 c hc with h | h
    · exact I.z c h.2
    · rw [h.2]; exact ⟨rfl, rfl, rfl, rfl⟩
  · obtain ⟨n, h1, h2⟩ := I.us
    exact Nat.le_trans (Nat.le_trans (H.le h1 _) h2) I.ul
theorem mSize_any {h : Heap} {c : TP} (h1 : c.rn ≤ 1000000) (h2 : c.wn ≤ 1000000) : HCalls Try.prog 32 #[.agg c.row.toArray] h fun v h' => Ext h h' ∧ v = .int .i64 ((2 + c.rn + c.wn : Nat) : Int) := by
  refine C.m_size_calls (args := [.agg c.row.toArray]) rfl ?_
  simp (disch := first | omega | assumption) only [C.m_size_gos, T.tv, ↓reduceIte, Nat.reduceEqDiff, reduceCtorEq, Nat.reduceLeDiff, Nat.reducePow, Int.reducePow, Int.reduceToNat, Nat.reduceAdd]
  refine eff_box ?_
  have E := Ext.push h (.cells c.row.toArray 65)
  have q0 : cellAt (h.push (.cells c.row.toArray 65)) ⟨h.size, 0, none⟩ = some (sv c.rg c.rn) := by rw [cellAt_push_new]; rfl
  have q1 : cellAt (h.push (.cells c.row.toArray 65)) ⟨h.size, 1, none⟩ = some (sv c.wg c.wn) := by rw [cellAt_push_new]; rfl
  have w1 : IntKind.i64.wrap (2 + (c.rn : Int)) = 2 + (c.rn : Int) := wrap_i64 (by omega) (by omega)
  have w2 : IntKind.i64.wrap (2 + (c.rn : Int) + (c.wn : Int)) = ((2 + c.rn + c.wn : Nat) : Int) := by rw [wrap_i64 (by omega) (by omega)]; omega
  simp (disch := first | omega | assumption) only [C.m_size_gos, T.tv, ↓reduceIte, Nat.reduceEqDiff, reduceCtorEq, Nat.reduceLeDiff, Nat.reducePow, Int.reducePow, Int.reduceToNat, Nat.reduceAdd, Nat.zero_add]
  generalize h.push (.cells c.row.toArray 65) = h1 at *
  simp (disch := first | omega | assumption) only [C.m_size_gos, T.tv, ↓reduceIte, Nat.reduceEqDiff, reduceCtorEq, Nat.reduceLeDiff, Nat.reducePow, Int.reducePow, Int.reduceToNat, Nat.reduceAdd, q0, q1, sv, w1, w2]
  first | exact E | exact ⟨E, rfl⟩
section
variable {base : Nat} {h : Heap} {p : Pm} {m : Ms} {a : AS}
theorem RepM.ld (R : RepM base h p m) {i : Nat} {c : TP} (hi : m.L[i]? = some c) : ld Try.prog 65 ⟨p.Lb, i * 3, none⟩ h = some (.agg c.row.toArray) :=
  ld_agg T.ag_65 (vs := c.row) (fun j v hv => R.at hi j v hv) rfl
set_option maxHeartbeats 2000000 in
theorem mMajor_any (G : GdM base h p m a) (hk : m.L.length ≤ 16385) : HCalls Try.prog 8 #[ptr p.M 0] h fun v h' => ∃ n m', Total a n ∧ v = .int .i64 (n : Int) ∧ StM base h h' p p m m' ∧ RI m' a ∧ m'.used = n ∧ m'.L.length = m.L.length := by
  refine C.m_Major_calls (args := [ptr p.M 0]) rfl ?_
  have l0 := G.r.m0
  have l1 := G.r.m1
  simp (disch := first | omega | assumption) only [C.m_Major_gos, T.tv, ↓reduceIte, Nat.reduceEqDiff, reduceCtorEq, Nat.reduceLeDiff, Nat.reducePow, Int.reducePow, Int.reduceToNat, Nat.reduceAdd, l0, l1]
  refine eff_callF rfl ((mReached_any G hk).mono ?_)
  rintro v h1 ⟨X, b, sl, hb, rfl, sb, sll, hs⟩
  have H : SeenOk a sl := ⟨by rw [sll, G.i.len], hs⟩
  have S0 := (StM.refl G.r).ext X
  have R1 := S0.rep
  simp (disch := first | omega | assumption) only [C.m_Major_gos, T.tv, ↓reduceIte, Nat.reduceEqDiff, reduceCtorEq, Nat.reduceLeDiff, Nat.reducePow, Int.reducePow, Int.reduceToNat, Nat.reduceAdd]
  refine eff_store1_z T.zr_3 rfl rfl rfl rfl rfl R1.m3 (R1.mz 3) ?_
  have S1 := S0.trans (R1.usedS 0)
  have nb : ∀ k, footM p m k → k ≠ b := fun k hk e => by have := (G.r.lt hk).2; omega
  have sb1 : (setAt h1 ⟨p.M, 3, none⟩ (.int .i64 ((0 : Nat) : Int)))[b]? = some (.cells (sl.map .bool).toArray 4 (0, 0)) := by
    have F : Fr (fun k => k = p.M) h1 (setAt h1 ⟨p.M, 3, none⟩ (.int .i64 ((0 : Nat) : Int))) := fr_set
    rw [F.same b (Array.getElem?_eq_some_iff.1 sb).1 (fun e => nb p.M (.inl rfl) e.symm)]; exact sb
  have z0 : ((0 : Nat) : Int) = 0 := rfl
  rw [z0] at S1 sb1
  clear S0 R1 l0 l1 sb X
  generalize setAt h1 ⟨p.M, 3, none⟩ (.int .i64 0) = h2 at *
  have l0 := S1.rep.m0
  obtain ⟨n, hn⟩ : ∃ n, n = m.L.length := ⟨_, rfl⟩
  have hna : n = a.things.length := by rw [hn, G.i.len]
  simp only at l0
  rw [← hn] at l0 hk sll ⊢
  obtain ⟨tt, T1, T2⟩ := G.i.us
  have T3 := G.i.ul
  have T4 := G.i.ll
  simp (disch := first | omega | assumption) only [C.m_Major_gos, T.tv, ↓reduceIte, Nat.reduceEqDiff, reduceCtorEq, Nat.reduceLeDiff, Nat.reducePow, Int.reducePow, Int.reduceToNat, Nat.reduceAdd, l0]
  refine loop_intro [0, 2, 3, 4, 21, 22] (fun mm ρ hc => ∃ (i : Nat) (v4 : Value) (L' : List TP), mm = n - i ∧ i ≤ n ∧ ρ = [(0, ptr p.M 0), (2, .int .i64 0), (3, .slice (some ⟨b, 0, none⟩) n n), (4, v4), (21, .int .i64 (n : Int)), (22, .int .i64 (i : Int))] ∧
    StM base h hc p p m { m with L := L', used := usT a sl i } ∧ Swp m sl i L' ∧ hc[b]? = some (.cells (sl.map .bool).toArray 4 (0, 0))) ?_ ?_
  · simp (disch := first | omega | assumption) only [C.m_Major_gos, T.tv, ↓reduceIte, Nat.reduceEqDiff, reduceCtorEq, Nat.reduceLeDiff, Nat.reducePow, Int.reducePow, Int.reduceToNat, Nat.reduceAdd]
    exact ⟨_, 0, _, m.L, rfl, Nat.zero_le _, rfl, S1, Swp.zero, sb1⟩
  clear S1 sb1 l0
  rintro mm ρ hc ⟨i, v4, L', rfl, hi, rfl, S, W, sb⟩
  by_cases c1 : i < n
  · have c1' : (i : Int) < (n : Int) := by omega
    have b1 : (0 : Int) ≤ (i : Int) := by omega
    have w : IntKind.i64.wrap ((i : Int) + 1) = ((i + 1 : Nat) : Int) := by rw [wrap_i64 (by omega) (by omega)]; omega
    have hsl : sl[i]? = some (sl[i]'(by omega)) := by simp
    obtain ⟨⟨u, su, sc⟩, _, _⟩ := plain_cell sb (k := i) (by simp; omega)
    rw [List.getElem?_map, hsl] at su
    cases su
    have hLi : L'[i]? = some (L'[i]'(by rw [W.len]; omega)) := by simp
    generalize L'[i]'(by rw [W.len]; omega) = c at hLi
    have hmi : m.L[i]? = some c := by rw [← W.hi i (Nat.le_refl _)]; exact hLi
    have q0 := S.rep.m0
    simp only [W.len] at q0
    rw [← hn] at q0
    cases hv : sl[i]'(by omega) with
    | true =>
      rw [hv] at hsl sc
      obtain ⟨i0, iA⟩ := (H.2 i true hsl).1 rfl
      obtain ⟨c', g, g', y1, y2, y3, y4, y5, y6, y7, y8, y9⟩ := G.i.live i0 iA
      rw [hmi] at y1; cases y1
      have hz := G.i.ai.sz i _ y3
      have easz : aszN a i = 2 + c.rn + c.wn := by unfold aszN asz; rw [y6, y9]
      have hle := H.le T1 (i + 1)
      have hus := usT_one (a := a) hsl
      rw [if_pos rfl, easz] at hus
      have q3 := S.rep.m3
      have qc := S.rep.ld hLi
      have w2 : IntKind.i64.wrap ((usT a sl i : Int) + ((2 + c.rn + c.wn : Nat) : Int)) = (usT a sl (i + 1) : Int) := by rw [wrap_i64 (by omega) (by omega)]; omega
      simp only at q3
      simp (disch := first | omega | assumption) only [C.m_Major_gos, T.tv, ↓reduceIte, Nat.reduceEqDiff, reduceCtorEq, Nat.reduceLeDiff, Nat.reducePow, Int.reducePow, Int.reduceToNat, Nat.reduceAdd, c1', b1, sc, q0, q3, qc]
      refine eff_callF rfl ((mSize_any (by omega) (by omega)).mono ?_)
      rintro v h3 ⟨X3, rfl⟩
      have S3 := S.ext X3
      have q3' := S3.rep.m3
      simp only at q3'
      have z3 := S3.rep.mz 3
      simp (disch := first | omega | assumption) only [C.m_Major_gos, T.tv, ↓reduceIte, Nat.reduceEqDiff, reduceCtorEq, Nat.reduceLeDiff, Nat.reducePow, Int.reducePow, Int.reduceToNat, Nat.reduceAdd, q3', w2]
      refine eff_store1_z T.zr_3 rfl rfl rfl rfl rfl q3' z3 ?_
      have S4 := S3.trans (S3.rep.usedS (usT a sl (i + 1)))
      have sb3 : h3[b]? = some (.cells (sl.map .bool).toArray 4 (0, 0)) := by
        rw [X3.same b (Array.getElem?_eq_some_iff.1 sb).1 _root_.id]; exact sb
      have sb4 : (setAt h3 ⟨p.M, 3, none⟩ (.int .i64 (usT a sl (i + 1) : Int)))[b]? = some (.cells (sl.map .bool).toArray 4 (0, 0)) := by
        have F : Fr (fun k => k = p.M) h3 (setAt h3 ⟨p.M, 3, none⟩ (.int .i64 (usT a sl (i + 1) : Int))) := fr_set
        rw [F.same b (Array.getElem?_eq_some_iff.1 sb3).1 (fun e => nb p.M (.inl rfl) e.symm)]; exact sb3
      simp (disch := first | omega | assumption) only [C.m_Major_gos, T.tv, ↓reduceIte, Nat.reduceEqDiff, reduceCtorEq, Nat.reduceLeDiff, Nat.reducePow, Int.reducePow, Int.reduceToNat, Nat.reduceAdd, w]
      exact ⟨_, by omega, i + 1, _, L', rfl, by omega, rfl, S4, W.keep hsl, sb4⟩
    | false =>
      rw [hv] at hsl sc
      simp (disch := first | omega | assumption) only [C.m_Major_gos, T.tv, ↓reduceIte, Nat.reduceEqDiff, reduceCtorEq, Nat.reduceLeDiff, Nat.reducePow, Int.reducePow, Int.reduceToNat, Nat.reduceAdd, c1', b1, sc, q0]
      obtain ⟨i3, hi3, z3⟩ : ∃ i3, Try.prog.info? 65 = some i3 ∧ i3.size = 3 := by
        obtain ⟨i3, z, h1, _, _, h4⟩ := zr_spec T.zr_65
        exact ⟨i3, h1, h4⟩
      obtain ⟨hl4, h04⟩ := S.rep.lo
      rcases h04 with ⟨hv', _⟩ | ⟨g', cap', cur, fz, hv', hbb, hgg, hfz, hnc, hcm, hcs, htk⟩
      · cases hv'
      cases hv'
      have hlen : ({ m with L := L', used := usT a sl i } : Ms).L.length = n := by show L'.length = n; rw [W.len]; exact hn.symm
      rw [hlen] at hnc
      have hmul := Nat.mul_le_mul_right 3 hnc
      refine eff_storeN (cur := cur) (fz := fz) hi3 rfl rfl z3.symm (one_row3 gone3) hgg (by rw [z3, hcs]; omega) (fun q _ hq => by rw [z3] at hq; exact hfz q (by omega)) ?_
      intro h5 f5 e5 g5
      have S5 := S.rep.thing (c' := gone3) hLi f5 (fun cur' fz' hx => by
        rw [hgg] at hx; cases hx
        rw [g5, z3]; rfl)
      have sb5 : h5[b]? = some (.cells (sl.map .bool).toArray 4 (0, 0)) := by
        rw [f5.same b (Array.getElem?_eq_some_iff.1 sb).1 (fun e => nb p.Lb (.inr (.inl rfl)) e.symm)]; exact sb
      have hus : usT a sl (i + 1) = usT a sl i := usT_one hsl
      have SS := S.trans S5
      simp only at SS
      rw [← hus] at SS
      simp (disch := first | omega | assumption) only [C.m_Major_gos, T.tv, ↓reduceIte, Nat.reduceEqDiff, reduceCtorEq, Nat.reduceLeDiff, Nat.reducePow, Int.reducePow, Int.reduceToNat, Nat.reduceAdd, w]
      exact ⟨_, by omega, i + 1, _, L'.set i gone3, rfl, by omega, rfl, SS, W.drop hsl, sb5⟩
  · have c1' : ¬ (i : Int) < (n : Int) := by omega
    have e : i = n := by omega
    subst e
    have q3 := S.rep.m3
    simp only at q3
    simp (disch := first | omega | assumption) only [C.m_Major_gos, T.tv, ↓reduceIte, Nat.reduceEqDiff, reduceCtorEq, Nat.reduceLeDiff, Nat.reducePow, Int.reducePow, Int.reduceToNat, Nat.reduceAdd, c1', q3]
    have W' : Swp m sl m.L.length L' := by rw [← hn]; exact W
    have J := G.i.swept H W'
    rw [← hn] at J
    have TT := H.total G.i.ai
    rw [← hna] at TT
    exact ⟨_, _, TT, rfl, S, J, rfl, by show L'.length = _; rw [W.len]; exact hn.symm⟩
end
end Go.Proofs.Ytidkokdkldfglaa

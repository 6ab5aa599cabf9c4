/- The space of the program in memory: what turns. No condition. -/
import Derived.Test.YtidkokdkldfglaaUA
namespace Go.Proofs.Ytidkokdkldfglaa
open Go.Vc
set_option maxRecDepth 100000
set_option linter.unusedSimpArgs false
set_option linter.unusedVariables false

theorem Own_cell {h : Heap} {base : Nat} {e : TypeId} {size n : Nat} {g c : Nat} {ys : List Value} (H : Own h base e size (.slice (some ⟨g, 0, none⟩) n c) n ys) {p : Nat} (hp : p < n * size) :
    (∃ u, ys[p]? = some u ∧ cellAt h ⟨g, p, none⟩ = some u) ∧ frozenAt h ⟨g, p, none⟩ = false ∧ ∀ z, Own (setAt h ⟨g, p, none⟩ z) base e size (.slice (some ⟨g, 0, none⟩) n c) n (ys.set p z) := by
  obtain ⟨hl, h0⟩ := H
  rcases h0 with ⟨hv, _⟩ | ⟨g', cap, cur, fz, hv, hb, hg, hfz, hnc, hcm, hcs, htk⟩
  · cases hv
  · cases hv
    have hps : p < c * size := Nat.lt_of_lt_of_le hp (Nat.mul_le_mul_right _ hnc)
    refine ⟨?_, ?_, ?_⟩
    · have h1 : cur.toList[p]? = ys[p]? := by
        rw [← htk, List.getElem?_take, if_pos hp]
      have h3 : cur[p]? = cur.toList[p]? := by simp
      refine ⟨ys[p]'(by omega), by simp, ?_⟩
      rw [cellAt_of hg, h3, h1]; simp
    · have := hfz p hps
      simp only [frozenAt, hg]
      simp only [Bool.and_eq_false_iff, decide_eq_false_iff_not]
      omega
    · intro z
      refine ⟨by simpa using hl, .inr ⟨g, c, cur.setIfInBounds p z, fz, rfl, hb, setAt_get hg z, hfz, hnc, hcm, by simpa using hcs, ?_⟩⟩
      rw [Array.toList_setIfInBounds, List.take_set, htk]
theorem plain_cell {h : Heap} {b : Nat} {l : List Value} {e : TypeId} (hb : h[b]? = some (.cells l.toArray e (0, 0))) {k : Nat} (hk : k < l.length) :
    (∃ u, l[k]? = some u ∧ cellAt h ⟨b, k, none⟩ = some u) ∧ frozenAt h ⟨b, k, none⟩ = false ∧ ∀ z, (setAt h ⟨b, k, none⟩ z)[b]? = some (.cells (l.set k z).toArray e (0, 0)) := by
  refine ⟨⟨l[k], by simp, by rw [cellAt_of hb]; simp⟩, by simp [frozenAt, hb], fun z => ?_⟩
  rw [setAt_get hb]
  simp
/-- Which blocks differ. -/
structure Dis (p : Ph) (s : St) : Prop where
  sh : p.S ≠ p.H
  sy : p.S ≠ p.Y
  so : p.S ≠ p.O
  hy : p.H ≠ p.Y
  ho : p.H ≠ p.O
  yo : p.Y ≠ p.O
  fv : ∀ k, p.fv.ownBlock = some k → k ≠ p.S ∧ k ≠ p.H ∧ k ≠ p.Y ∧ k ≠ p.O
  rs : ∀ k, s.RS k ≠ none → k ≠ p.S ∧ k ≠ p.H ∧ k ≠ p.Y ∧ k ≠ p.O ∧ p.fv.ownBlock ≠ some k
  ws : ∀ k, s.WS k ≠ none → k ≠ p.S ∧ k ≠ p.H ∧ k ≠ p.Y ∧ k ≠ p.O ∧ p.fv.ownBlock ≠ some k ∧ s.RS k = none
theorem Rep.dis {base : Nat} {h : Heap} {p : Ph} {s : St} (R : Rep base h p s) : Dis p s := by
  obtain ⟨⟨c1, z1, t1⟩, ⟨c2, z2, t2⟩, ⟨c3, z3, t3⟩, ⟨c4, z4, t4⟩, t5, t6, t7⟩ := R.tag
  refine ⟨blk_ne t1 t2 (by decide), blk_ne t1 t3 (by decide), blk_ne t1 t4 (by decide), blk_ne t2 t3 (by decide), blk_ne t2 t4 (by decide), R.ne, ?_, ?_, ?_⟩
  · intro k hk
    obtain ⟨c, z, t⟩ := t5 k hk
    exact ⟨blk_ne t t1 (by decide), blk_ne t t2 (by decide), blk_ne t t3 (by decide), blk_ne t t4 (by decide)⟩
  · intro k hk
    obtain ⟨c, z, t⟩ := t6 k hk
    refine ⟨blk_ne t t1 (by decide), blk_ne t t2 (by decide), blk_ne t t3 (by decide), blk_ne t t4 (by decide), ?_⟩
    cases hl : s.RS k with
    | none => exact absurd hl hk
    | some l => exact (R.rs k l hl).2.2
  · intro k hk
    obtain ⟨c, z, t⟩ := t7 k hk
    refine ⟨blk_ne t t1 (by decide), blk_ne t t2 (by decide), blk_ne t t3 (by decide), blk_ne t t4 (by decide), ?_, ?_⟩
    · intro hf
      obtain ⟨c', z', t'⟩ := t5 k hf
      exact blk_ne t t' (by decide) rfl
    · cases hl : s.RS k with
      | none => rfl
      | some l =>
        obtain ⟨c', z', t'⟩ := t6 k (by rw [hl]; simp)
        exact absurd rfl (blk_ne t t' (by decide))
theorem fr_set {h : Heap} {b o : Nat} {v : Value} : Fr (fun k => k = b) h (setAt h ⟨b, o, none⟩ v) := Fr.set _ _ _ fun _ => rfl
theorem fr_foot {h h' : Heap} {p : Ph} {s : St} {b : Nat} (hf : Fr (fun k => k = b) h h') (hb : foot p s b) : Fr (foot p s) h h' := hf.mono fun k _ hk => by rw [hk]; exact hb
section
variable {base : Nat} {h : Heap} {p : Ph} {s : St}
theorem Rep.root (R : Rep base h p s) {k : Nat} (hk : k < s.roots.length) (r : Nat) : Stp base h (setAt h ⟨p.S, 1 + k, none⟩ (refV r)) p p s { s with roots := s.roots.set k r } := by
  have D := R.dis
  have F : Fr (fun k => k = p.S) h (setAt h ⟨p.S, 1 + k, none⟩ (refV r)) := fr_set
  have sm : ∀ j, foot p s j → j ≠ p.S → (setAt h ⟨p.S, 1 + k, none⟩ (refV r))[j]? = h[j]? := fun j hj hn => F.same j (R.lt hj).2 hn
  have hl : 1 + k < (Value.pointer (some ⟨p.H, 0, none⟩) :: s.roots.map refV).length := by simp; omega
  refine ⟨⟨?_, ?_, R.yo.fr F ?_, R.oo.fr F ?_, R.fo.fr F ?_, ?_, ?_, R.ne, R.bs⟩, fr_foot F (.inl rfl), fun j hj => .inl hj⟩
  · rw [(plain_cell R.sp hl).2.2]
    congr 2
    rw [Nat.add_comm, List.set_cons_succ, List.map_set]
  · rw [sm _ (.inr (.inl rfl)) (Ne.symm D.sh)]; exact R.hp
  · intro j hj e; cases hj; exact D.sy e.symm
  · intro j hj e; cases hj; exact D.so e.symm
  · intro j hj e; exact (D.fv j hj).1 e
  · intro g l hg
    obtain ⟨h1, h2, h3⟩ := R.rs g l hg
    exact ⟨h1, by rw [sm g (.inr (.inr (.inr (.inr (.inr (.inl (by rw [hg]; simp))))))) (D.rs g (by rw [hg]; simp)).1]; exact h2, h3⟩
  · intro g l hg
    obtain ⟨h1, h2⟩ := R.ws g l hg
    exact ⟨h1, by rw [sm g (.inr (.inr (.inr (.inr (.inr (.inr (by rw [hg]; simp))))))) (D.ws g (by rw [hg]; simp)).1]; exact h2⟩
/-- The fields of the heap's own block turn. -/
theorem Rep.head (R : Rep base h p s) {h' : Heap} (F : Fr (fun k => k = p.H) h h') (s' : St) (p' : Ph) (hp' : p' = { p with yc := p'.yc, oc := p'.oc, fv := p'.fv })
    (e1 : h'[p.H]? = some (.cells #[.slice (some ⟨p.Y, 0, none⟩) s'.young.length p'.yc, .slice (some ⟨p.O, 0, none⟩) s'.old.length p'.oc, .int .i64 (s'.used : Int), .int .i64 (s'.fresh : Int), .int .i64 (s'.limit : Int), .int .i64 (s'.room : Int), p'.fv] 70 (0, 0)))
    (yo : Own h base 85 7 (.slice (some ⟨p.Y, 0, none⟩) s'.young.length p'.yc) s'.young.length (rows s'.young))
    (oo : Own h base 85 7 (.slice (some ⟨p.O, 0, none⟩) s'.old.length p'.oc) s'.old.length (rows s'.old))
    (fo : Own h base 51 1 p'.fv s'.refers.length (s'.refers.map refV)) (ff : ∀ k, p'.fv.ownBlock = some k → p.fv.ownBlock = some k)
    (er : s'.roots = s.roots) (eR : s'.RS = s.RS) (eW : s'.WS = s.WS) : Stp base h h' p p' s s' := by
  have D := R.dis
  have sm : ∀ j, foot p s j → j ≠ p.H → h'[j]? = h[j]? := fun j hj hn => F.same j (R.lt hj).2 hn
  have pS : p'.S = p.S := by rw [hp']
  have pH : p'.H = p.H := by rw [hp']
  have pY : p'.Y = p.Y := by rw [hp']
  have pO : p'.O = p.O := by rw [hp']
  refine ⟨⟨?_, ?_, ?_, ?_, fo.fr F ?_, ?_, ?_, ?_, ?_⟩, fr_foot F (.inr (.inl rfl)), fun j hj => .inl ?_⟩
  · rw [pS, pH, er, sm _ (.inl rfl) D.sh]; exact R.sp
  · rw [pH, pY, pO]; exact e1
  · rw [pY]; refine yo.fr F ?_
    intro j hj e; cases hj; exact D.hy e.symm
  · rw [pO]; refine oo.fr F ?_
    intro j hj e; cases hj; exact D.ho e.symm
  · intro j hj e; exact (D.fv j (ff j hj)).2.1 e
  · intro g l hg
    rw [eR] at hg
    obtain ⟨h1, h2, h3⟩ := R.rs g l hg
    exact ⟨h1, by rw [sm g (.inr (.inr (.inr (.inr (.inr (.inl (by rw [hg]; simp))))))) (D.rs g (by rw [hg]; simp)).2.1]; exact h2, fun hh => h3 (ff g hh)⟩
  · intro g l hg
    rw [eW] at hg
    obtain ⟨h1, h2⟩ := R.ws g l hg
    exact ⟨h1, by rw [sm g (.inr (.inr (.inr (.inr (.inr (.inr (by rw [hg]; simp))))))) (D.ws g (by rw [hg]; simp)).2.1]; exact h2⟩
  · rw [pY, pO]; exact R.ne
  · rw [pS, pH]; exact R.bs
  · unfold foot at hj ⊢
    rw [pS, pH, pY, pO, eR, eW] at hj
    rcases hj with hj | hj | hj | hj | hj | hj
    · exact .inl hj
    · exact .inr (.inl hj)
    · exact .inr (.inr (.inl hj))
    · exact .inr (.inr (.inr (.inl hj)))
    · exact .inr (.inr (.inr (.inr (.inl (ff j hj)))))
    · exact .inr (.inr (.inr (.inr (.inr hj))))
theorem Rep.used (R : Rep base h p s) (n : Nat) : Stp base h (setAt h ⟨p.H, 2, none⟩ (.int .i64 (n : Int))) p p s { s with used := n } := by
  refine R.head fr_set _ p rfl ?_ R.yo R.oo R.fo (fun k hk => hk) rfl rfl rfl
  rw [setAt_get R.hp]; rfl
theorem Rep.fresh (R : Rep base h p s) (n : Nat) : Stp base h (setAt h ⟨p.H, 3, none⟩ (.int .i64 (n : Int))) p p s { s with fresh := n } := by
  refine R.head fr_set _ p rfl ?_ R.yo R.oo R.fo (fun k hk => hk) rfl rfl rfl
  rw [setAt_get R.hp]; rfl
/-- A cell of references turns. -/
theorem Rep.ref (R : Rep base h p s) {g k : Nat} {l : List Nat} (hg : s.RS g = some l) (hk : k < l.length) (r : Nat) : Stp base h (setAt h ⟨g, k, none⟩ (refV r)) p p s { s with RS := upd s.RS g (l.set k r) } := by
  have D := R.dis
  have hgn : s.RS g ≠ none := by rw [hg]; simp
  have F : Fr (fun k => k = g) h (setAt h ⟨g, k, none⟩ (refV r)) := fr_set
  have sm : ∀ j, foot p s j → j ≠ g → (setAt h ⟨g, k, none⟩ (refV r))[j]? = h[j]? := fun j hj hn => F.same j (R.lt hj).2 hn
  obtain ⟨d1, d2, d3, d4, d5⟩ := D.rs g hgn
  refine ⟨⟨?_, ?_, R.yo.fr F ?_, R.oo.fr F ?_, R.fo.fr F ?_, ?_, ?_, R.ne, R.bs⟩, fr_foot F (.inr (.inr (.inr (.inr (.inr (.inl hgn)))))), fun j hj => .inl ?_⟩
  · rw [sm _ (.inl rfl) (Ne.symm d1)]; exact R.sp
  · rw [sm _ (.inr (.inl rfl)) (Ne.symm d2)]; exact R.hp
  · intro j hj e; cases hj; exact d3 e.symm
  · intro j hj e; cases hj; exact d4 e.symm
  · intro j hj e; subst e; exact d5 hj
  · intro g' l' hg'
    by_cases e : g' = g
    · subst e
      simp only [upd_eq, Option.some.injEq] at hg'
      subst hg'
      obtain ⟨h1, h2, h3⟩ := R.rs g' l hg
      refine ⟨h1, ?_, h3⟩
      rw [(plain_cell h2 (by simpa using hk)).2.2, List.map_set]
    · simp only [upd_ne e] at hg'
      obtain ⟨h1, h2, h3⟩ := R.rs g' l' hg'
      exact ⟨h1, by rw [sm g' (.inr (.inr (.inr (.inr (.inr (.inl (by rw [hg']; simp))))))) e]; exact h2, h3⟩
  · intro g' l' hg'
    obtain ⟨h1, h2⟩ := R.ws g' l' hg'
    refine ⟨h1, ?_⟩
    rw [sm g' (.inr (.inr (.inr (.inr (.inr (.inr (by rw [hg']; simp))))))) (fun e => by
      have := (D.ws g' (by rw [hg']; simp)).2.2.2.2.2
      rw [e] at this; exact hgn this)]
    exact h2
  · unfold foot at hj ⊢
    rcases hj with hj | hj | hj | hj | hj | hj | hj
    · exact .inl hj
    · exact .inr (.inl hj)
    · exact .inr (.inr (.inl hj))
    · exact .inr (.inr (.inr (.inl hj)))
    · exact .inr (.inr (.inr (.inr (.inl hj))))
    · by_cases e : j = g
      · subst e; exact .inr (.inr (.inr (.inr (.inr (.inl hgn)))))
      · simp only [upd_ne e] at hj; exact .inr (.inr (.inr (.inr (.inr (.inl hj)))))
    · exact .inr (.inr (.inr (.inr (.inr (.inr hj)))))
theorem Rep.word (R : Rep base h p s) {g k : Nat} {l : List Nat} (hg : s.WS g = some l) (hk : k < l.length) (r : Nat) : Stp base h (setAt h ⟨g, k, none⟩ (wordV r)) p p s { s with WS := upd s.WS g (l.set k r) } := by
  have D := R.dis
  have hgn : s.WS g ≠ none := by rw [hg]; simp
  have F : Fr (fun k => k = g) h (setAt h ⟨g, k, none⟩ (wordV r)) := fr_set
  have sm : ∀ j, foot p s j → j ≠ g → (setAt h ⟨g, k, none⟩ (wordV r))[j]? = h[j]? := fun j hj hn => F.same j (R.lt hj).2 hn
  obtain ⟨d1, d2, d3, d4, d5, d6⟩ := D.ws g hgn
  refine ⟨⟨?_, ?_, R.yo.fr F ?_, R.oo.fr F ?_, R.fo.fr F ?_, ?_, ?_, R.ne, R.bs⟩, fr_foot F (.inr (.inr (.inr (.inr (.inr (.inr hgn)))))), fun j hj => .inl ?_⟩
  · rw [sm _ (.inl rfl) (Ne.symm d1)]; exact R.sp
  · rw [sm _ (.inr (.inl rfl)) (Ne.symm d2)]; exact R.hp
  · intro j hj e; cases hj; exact d3 e.symm
  · intro j hj e; cases hj; exact d4 e.symm
  · intro j hj e; subst e; exact d5 hj
  · intro g' l' hg'
    obtain ⟨h1, h2, h3⟩ := R.rs g' l' hg'
    refine ⟨h1, ?_, h3⟩
    rw [sm g' (.inr (.inr (.inr (.inr (.inr (.inl (by rw [hg']; simp))))))) (fun e => by
      rw [e, d6] at hg'; cases hg')]
    exact h2
  · intro g' l' hg'
    by_cases e : g' = g
    · subst e
      simp only [upd_eq, Option.some.injEq] at hg'
      subst hg'
      obtain ⟨h1, h2⟩ := R.ws g' l hg
      refine ⟨h1, ?_⟩
      rw [(plain_cell h2 (by simpa using hk)).2.2, List.map_set]
    · simp only [upd_ne e] at hg'
      obtain ⟨h1, h2⟩ := R.ws g' l' hg'
      exact ⟨h1, by rw [sm g' (.inr (.inr (.inr (.inr (.inr (.inr (by rw [hg']; simp))))))) e]; exact h2⟩
  · unfold foot at hj ⊢
    rcases hj with hj | hj | hj | hj | hj | hj | hj
    · exact .inl hj
    · exact .inr (.inl hj)
    · exact .inr (.inr (.inl hj))
    · exact .inr (.inr (.inr (.inl hj)))
    · exact .inr (.inr (.inr (.inr (.inl hj))))
    · exact .inr (.inr (.inr (.inr (.inr (.inl hj)))))
    · by_cases e : j = g
      · subst e; exact .inr (.inr (.inr (.inr (.inr (.inr hgn)))))
      · simp only [upd_ne e] at hj; exact .inr (.inr (.inr (.inr (.inr (.inr hj)))))
/-- A cell of a thing of the old turns. -/
theorem Rep.oldc (R : Rep base h p s) {i j : Nat} {c c' : CP} {v : Value} (hi : s.old[i]? = some c) (hj : j < 7) (hc : c'.row = c.row.set j v) : Stp base h (setAt h ⟨p.O, i * 7 + j, none⟩ v) p p s { s with old := s.old.set i c' } := by
  have D := R.dis
  have F : Fr (fun k => k = p.O) h (setAt h ⟨p.O, i * 7 + j, none⟩ v) := fr_set
  have sm : ∀ j', foot p s j' → j' ≠ p.O → (setAt h ⟨p.O, i * 7 + j, none⟩ v)[j']? = h[j']? := fun j hj hn => F.same j (R.lt hj).2 hn
  have il : i < s.old.length := (List.getElem?_eq_some_iff.1 hi).1
  refine ⟨⟨?_, ?_, R.yo.fr F ?_, ?_, R.fo.fr F ?_, ?_, ?_, R.ne, R.bs⟩, fr_foot F (.inr (.inr (.inr (.inl rfl)))), fun j hj => .inl hj⟩
  · rw [sm _ (.inl rfl) D.so]; exact R.sp
  · rw [sm _ (.inr (.inl rfl)) D.ho]; simp only [List.length_set]; exact R.hp
  · intro j hj e; cases hj; exact D.yo e
  · have := (Own_cell R.oo (p := i * 7 + j) (by omega)).2.2 v
    simp only [List.length_set]
    rw [rows_set hi hj hc]
    exact this
  · intro j hj e; exact (D.fv j hj).2.2.2 e
  · intro g l hg
    obtain ⟨h1, h2, h3⟩ := R.rs g l hg
    exact ⟨h1, by rw [sm g (.inr (.inr (.inr (.inr (.inr (.inl (by rw [hg]; simp))))))) (D.rs g (by rw [hg]; simp)).2.2.2.1]; exact h2, h3⟩
  · intro g l hg
    obtain ⟨h1, h2⟩ := R.ws g l hg
    exact ⟨h1, by rw [sm g (.inr (.inr (.inr (.inr (.inr (.inr (by rw [hg]; simp))))))) (D.ws g (by rw [hg]; simp)).2.2.2.1]; exact h2⟩
theorem Rep.youngc (R : Rep base h p s) {i j : Nat} {c c' : CP} {v : Value} (hi : s.young[i]? = some c) (hj : j < 7) (hc : c'.row = c.row.set j v) : Stp base h (setAt h ⟨p.Y, i * 7 + j, none⟩ v) p p s { s with young := s.young.set i c' } := by
  have D := R.dis
  have F : Fr (fun k => k = p.Y) h (setAt h ⟨p.Y, i * 7 + j, none⟩ v) := fr_set
  have sm : ∀ j', foot p s j' → j' ≠ p.Y → (setAt h ⟨p.Y, i * 7 + j, none⟩ v)[j']? = h[j']? := fun j hj hn => F.same j (R.lt hj).2 hn
  have il : i < s.young.length := (List.getElem?_eq_some_iff.1 hi).1
  refine ⟨⟨?_, ?_, ?_, R.oo.fr F ?_, R.fo.fr F ?_, ?_, ?_, R.ne, R.bs⟩, fr_foot F (.inr (.inr (.inl rfl))), fun j hj => .inl hj⟩
  · rw [sm _ (.inl rfl) D.sy]; exact R.sp
  · rw [sm _ (.inr (.inl rfl)) D.hy]; simp only [List.length_set]; exact R.hp
  · have := (Own_cell R.yo (p := i * 7 + j) (by omega)).2.2 v
    simp only [List.length_set]
    rw [rows_set hi hj hc]
    exact this
  · intro j hj e; cases hj; exact D.yo e.symm
  · intro j hj e; exact (D.fv j hj).2.2.1 e
  · intro g l hg
    obtain ⟨h1, h2, h3⟩ := R.rs g l hg
    exact ⟨h1, by rw [sm g (.inr (.inr (.inr (.inr (.inr (.inl (by rw [hg]; simp))))))) (D.rs g (by rw [hg]; simp)).2.2.1]; exact h2, h3⟩
  · intro g l hg
    obtain ⟨h1, h2⟩ := R.ws g l hg
    exact ⟨h1, by rw [sm g (.inr (.inr (.inr (.inr (.inr (.inr (by rw [hg]; simp))))))) (D.ws g (by rw [hg]; simp)).2.2.1]; exact h2⟩
end
end Go.Proofs.Ytidkokdkldfglaa

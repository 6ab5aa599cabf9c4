/- The space of the program in memory: what is added; where a thing lies. No condition. -/
import Derived.Test.YtidkokdkldfglaaUB
namespace Go.Proofs.Ytidkokdkldfglaa
open Go.Vc
set_option maxRecDepth 100000
set_option linter.unusedSimpArgs false
set_option linter.unusedVariables false

theorem Own_pos {h : Heap} {base : Nat} {e : TypeId} {size n : Nat} {v : Value} {xs : List Value} (H : Own h base e size v (n + 1) xs) : ∃ g c, v = .slice (some ⟨g, 0, none⟩) (n + 1) c := by
  rcases H.2 with ⟨_, h0⟩ | ⟨g, cap, cur, fz, rfl, _⟩
  · omega
  · exact ⟨g, cap, rfl⟩
section
variable {base : Nat} {h : Heap} {p : Ph} {s : St}
theorem Rep.addOld (R : Rep base h p s) {h1 : Heap} {v' : Value} {c : CP} (O1 : Own h1 base 85 7 v' (s.old.length + 1) (rows s.old ++ c.row)) (F1 : Fr (fun k => k = p.O) h h1)
    (hv : ∀ k, v'.ownBlock = some k → k = p.O ∨ h.size ≤ k) :
    ∃ O' oc', v' = .slice (some ⟨O', 0, none⟩) (s.old.length + 1) oc' ∧ Stp base h (setAt h1 ⟨p.H, 1, none⟩ v') p { p with O := O', oc := oc' } s { s with old := s.old ++ [c] } := by
  have D := R.dis
  obtain ⟨O', oc', rfl⟩ := Own_pos O1
  refine ⟨O', oc', rfl, ?_⟩
  have hO : O' = p.O ∨ h.size ≤ O' := hv O' rfl
  have F2 : Fr (fun k => k = p.H) h1 (setAt h1 ⟨p.H, 1, none⟩ (.slice (some ⟨O', 0, none⟩) (s.old.length + 1) oc')) := fr_set
  have F : Fr (fun k => k = p.O ∨ k = p.H) h (setAt h1 ⟨p.H, 1, none⟩ (.slice (some ⟨O', 0, none⟩) (s.old.length + 1) oc')) := Fr.trans F1 F2 (fun _ _ h => .inl h) (fun _ _ h => .inr h)
  have sm : ∀ j, foot p s j → j ≠ p.O → j ≠ p.H → (setAt h1 ⟨p.H, 1, none⟩ (.slice (some ⟨O', 0, none⟩) (s.old.length + 1) oc'))[j]? = h[j]? := fun j hj hn hm => F.same j (R.lt hj).2 (by simp [hn, hm])
  have ne' : ∀ j, foot p s j → j ≠ p.O → j ≠ O' := fun j hj hn e => by
    have := (R.lt hj).2
    rcases hO with h1 | h1
    · exact hn (e.trans h1)
    · omega
  have hp1 : h1[p.H]? = h[p.H]? := F1.same _ (R.lt (.inr (.inl rfl))).2 D.ho
  have hp := R.hp
  rw [← hp1] at hp
  refine ⟨⟨?_, ?_, R.yo.fr F ?_, ?_, R.fo.fr F ?_, ?_, ?_, ?_, R.bs⟩, F.mono fun k _ hk => ?_, fun j hj => ?_⟩
  · rw [sm _ (.inl rfl) D.so D.sh]; exact R.sp
  · rw [setAt_get hp]
    simp only [List.length_append, List.length_cons, List.length_nil, Nat.zero_add]
    rfl
  · intro j hj e; cases hj
    rcases e with e | e
    · exact D.yo e
    · exact D.hy e.symm
  · rw [rows_app, List.length_append, List.length_cons, List.length_nil]
    have := O1.fr F2 (fun k hk e => by
      cases hk
      exact ne' _ (.inr (.inl rfl)) D.ho e.symm)
    simpa [rows] using this
  · intro j hj e
    rcases e with e | e
    · exact (D.fv j hj).2.2.2 e
    · exact (D.fv j hj).2.1 e
  · intro g l hg
    obtain ⟨h1, h2, h3⟩ := R.rs g l hg
    have d := D.rs g (by rw [hg]; simp)
    exact ⟨h1, by rw [sm g (.inr (.inr (.inr (.inr (.inr (.inl (by rw [hg]; simp))))))) d.2.2.2.1 d.2.1]; exact h2, h3⟩
  · intro g l hg
    obtain ⟨h1, h2⟩ := R.ws g l hg
    have d := D.ws g (by rw [hg]; simp)
    exact ⟨h1, by rw [sm g (.inr (.inr (.inr (.inr (.inr (.inr (by rw [hg]; simp))))))) d.2.2.2.1 d.2.1]; exact h2⟩
  · exact ne' _ (.inr (.inr (.inl rfl))) D.yo
  · rcases hk with rfl | rfl
    · exact .inr (.inr (.inr (.inl rfl)))
    · exact .inr (.inl rfl)
  · rcases hj with hj | hj | hj | hj | hj
    · exact .inl (.inl hj)
    · exact .inl (.inr (.inl hj))
    · exact .inl (.inr (.inr (.inl hj)))
    · rcases hO with h1 | h1
      · exact .inl (.inr (.inr (.inr (.inl (hj.trans h1)))))
      · exact .inr (by rw [hj]; exact h1)
    · exact .inl (.inr (.inr (.inr (.inr hj))))
theorem Rep.addYoung (R : Rep base h p s) {h1 : Heap} {v' : Value} {c : CP} (O1 : Own h1 base 85 7 v' (s.young.length + 1) (rows s.young ++ c.row)) (F1 : Fr (fun k => k = p.Y) h h1)
    (hv : ∀ k, v'.ownBlock = some k → k = p.Y ∨ h.size ≤ k) :
    ∃ Y' yc', v' = .slice (some ⟨Y', 0, none⟩) (s.young.length + 1) yc' ∧ Stp base h (setAt h1 ⟨p.H, 0, none⟩ v') p { p with Y := Y', yc := yc' } s { s with young := s.young ++ [c] } := by
  have D := R.dis
  obtain ⟨Y', yc', rfl⟩ := Own_pos O1
  refine ⟨Y', yc', rfl, ?_⟩
  have hO : Y' = p.Y ∨ h.size ≤ Y' := hv Y' rfl
  have F2 : Fr (fun k => k = p.H) h1 (setAt h1 ⟨p.H, 0, none⟩ (.slice (some ⟨Y', 0, none⟩) (s.young.length + 1) yc')) := fr_set
  have F : Fr (fun k => k = p.Y ∨ k = p.H) h (setAt h1 ⟨p.H, 0, none⟩ (.slice (some ⟨Y', 0, none⟩) (s.young.length + 1) yc')) := Fr.trans F1 F2 (fun _ _ h => .inl h) (fun _ _ h => .inr h)
  have sm : ∀ j, foot p s j → j ≠ p.Y → j ≠ p.H → (setAt h1 ⟨p.H, 0, none⟩ (.slice (some ⟨Y', 0, none⟩) (s.young.length + 1) yc'))[j]? = h[j]? := fun j hj hn hm => F.same j (R.lt hj).2 (by simp [hn, hm])
  have ne' : ∀ j, foot p s j → j ≠ p.Y → j ≠ Y' := fun j hj hn e => by
    have := (R.lt hj).2
    rcases hO with h1 | h1
    · exact hn (e.trans h1)
    · omega
  have hp1 : h1[p.H]? = h[p.H]? := F1.same _ (R.lt (.inr (.inl rfl))).2 D.hy
  have hp := R.hp
  rw [← hp1] at hp
  refine ⟨⟨?_, ?_, ?_, R.oo.fr F ?_, R.fo.fr F ?_, ?_, ?_, ?_, R.bs⟩, F.mono fun k _ hk => ?_, fun j hj => ?_⟩
  · rw [sm _ (.inl rfl) D.sy D.sh]; exact R.sp
  · rw [setAt_get hp]
    simp only [List.length_append, List.length_cons, List.length_nil, Nat.zero_add]
    rfl
  · rw [rows_app, List.length_append, List.length_cons, List.length_nil]
    have := O1.fr F2 (fun k hk e => by
      cases hk
      exact ne' _ (.inr (.inl rfl)) D.hy e.symm)
    simpa [rows] using this
  · intro j hj e; cases hj
    rcases e with e | e
    · exact D.yo e.symm
    · exact D.ho e.symm
  · intro j hj e
    rcases e with e | e
    · exact (D.fv j hj).2.2.1 e
    · exact (D.fv j hj).2.1 e
  · intro g l hg
    obtain ⟨h1, h2, h3⟩ := R.rs g l hg
    have d := D.rs g (by rw [hg]; simp)
    exact ⟨h1, by rw [sm g (.inr (.inr (.inr (.inr (.inr (.inl (by rw [hg]; simp))))))) d.2.2.1 d.2.1]; exact h2, h3⟩
  · intro g l hg
    obtain ⟨h1, h2⟩ := R.ws g l hg
    have d := D.ws g (by rw [hg]; simp)
    exact ⟨h1, by rw [sm g (.inr (.inr (.inr (.inr (.inr (.inr (by rw [hg]; simp))))))) d.2.2.1 d.2.1]; exact h2⟩
  · exact (ne' _ (.inr (.inr (.inr (.inl rfl)))) (Ne.symm D.yo)).symm
  · rcases hk with rfl | rfl
    · exact .inr (.inr (.inl rfl))
    · exact .inr (.inl rfl)
  · rcases hj with hj | hj | hj | hj
    · exact .inl (.inl hj)
    · exact .inl (.inr (.inl hj))
    · rcases hO with h1 | h1
      · exact .inl (.inr (.inr (.inl (hj.trans h1))))
      · exact .inr (by rw [hj]; exact h1)
    · exact .inl (.inr (.inr (.inr hj)))
theorem Rep.addRefer (R : Rep base h p s) {h1 : Heap} {v' : Value} {c : Nat} (O1 : Own h1 base 51 1 v' (s.refers.length + 1) (s.refers.map refV ++ [refV c])) (F1 : Fr (fun k => p.fv.ownBlock = some k) h h1)
    (hv : ∀ k, v'.ownBlock = some k → p.fv.ownBlock = some k ∨ h.size ≤ k) :
    Stp base h (setAt h1 ⟨p.H, 6, none⟩ v') p { p with fv := v' } s { s with refers := s.refers ++ [c] } := by
  have D := R.dis
  have F2 : Fr (fun k => k = p.H) h1 (setAt h1 ⟨p.H, 6, none⟩ v') := fr_set
  have F : Fr (fun k => p.fv.ownBlock = some k ∨ k = p.H) h (setAt h1 ⟨p.H, 6, none⟩ v') := Fr.trans F1 F2 (fun _ _ h => .inl h) (fun _ _ h => .inr h)
  have sm : ∀ j, foot p s j → p.fv.ownBlock ≠ some j → j ≠ p.H → (setAt h1 ⟨p.H, 6, none⟩ v')[j]? = h[j]? := fun j hj hn hm => F.same j (R.lt hj).2 (by simp [hn, hm])
  have nf : ∀ j, j = p.S ∨ j = p.H ∨ j = p.Y ∨ j = p.O → p.fv.ownBlock ≠ some j := fun j hj hk => by
    have := D.fv j hk
    rcases hj with e | e | e | e <;> simp [e] at this
  have ne' : ∀ j, foot p s j → p.fv.ownBlock ≠ some j → v'.ownBlock ≠ some j := fun j hj hn e => by
    have := (R.lt hj).2
    rcases hv j e with h1 | h1
    · exact hn h1
    · omega
  have hp1 : h1[p.H]? = h[p.H]? := F1.same _ (R.lt (.inr (.inl rfl))).2 (nf _ (.inr (.inl rfl)))
  have hp := R.hp
  rw [← hp1] at hp
  refine ⟨⟨?_, ?_, R.yo.fr F ?_, R.oo.fr F ?_, ?_, ?_, ?_, R.ne, R.bs⟩, F.mono fun k _ hk => ?_, fun j hj => ?_⟩
  · rw [sm _ (.inl rfl) (nf _ (.inl rfl)) D.sh]; exact R.sp
  · rw [setAt_get hp]; rfl
  · intro j hj e; cases hj
    rcases e with e | e
    · exact nf _ (.inr (.inr (.inl rfl))) e
    · exact D.hy e.symm
  · intro j hj e; cases hj
    rcases e with e | e
    · exact nf _ (.inr (.inr (.inr rfl))) e
    · exact D.ho e.symm
  · have := O1.fr F2 (fun k hk e => by
      subst e
      exact ne' _ (.inr (.inl rfl)) (nf _ (.inr (.inl rfl))) hk)
    simpa using this
  · intro g l hg
    obtain ⟨h1, h2, h3⟩ := R.rs g l hg
    have d := D.rs g (by rw [hg]; simp)
    have hf : foot p s g := .inr (.inr (.inr (.inr (.inr (.inl (by rw [hg]; simp))))))
    exact ⟨h1, by rw [sm g hf d.2.2.2.2 d.2.1]; exact h2, ne' g hf d.2.2.2.2⟩
  · intro g l hg
    obtain ⟨h1, h2⟩ := R.ws g l hg
    have d := D.ws g (by rw [hg]; simp)
    exact ⟨h1, by rw [sm g (.inr (.inr (.inr (.inr (.inr (.inr (by rw [hg]; simp))))))) d.2.2.2.2.1 d.2.1]; exact h2⟩
  · rcases hk with hk | rfl
    · exact .inr (.inr (.inr (.inr (.inl hk))))
    · exact .inr (.inl rfl)
  · rcases hj with hj | hj | hj | hj | hj | hj
    · exact .inl (.inl hj)
    · exact .inl (.inr (.inl hj))
    · exact .inl (.inr (.inr (.inl hj)))
    · exact .inl (.inr (.inr (.inr (.inl hj))))
    · rcases hv j hj with h1 | h1
      · exact .inl (.inr (.inr (.inr (.inr (.inl h1)))))
      · exact .inr h1
    · exact .inl (.inr (.inr (.inr (.inr (.inr hj)))))
theorem Rep.newRef (R : Rep base h p s) (hb : base ≤ h.size) (n : Nat) : Stp base h (h.push (.cells (List.replicate n (refV 0)).toArray 51 (0, 0))) p p s { s with RS := upd s.RS h.size (List.replicate n 0) } := by
  have E := Ext.push h (.cells (List.replicate n (refV 0)).toArray 51 (0, 0))
  have R' := R.ext E
  refine ⟨⟨R'.sp, R'.hp, R'.yo, R'.oo, R'.fo, ?_, R'.ws, R'.ne, R'.bs⟩, E.mono fun k _ hk => hk.elim, fun j hj => ?_⟩
  · intro g l hg
    by_cases e : g = h.size
    · subst e
      simp only [upd_eq, Option.some.injEq] at hg
      subst hg
      refine ⟨hb, by simp [refV], fun hk => ?_⟩
      have := (R.lt (.inr (.inr (.inr (.inr (.inl hk)))))).2
      omega
    · simp only [upd_ne e] at hg
      exact R'.rs g l hg
  · by_cases e : j = h.size
    · exact .inr (by omega)
    · refine .inl ?_
      unfold foot at hj ⊢
      simp only [upd_ne e] at hj
      exact hj
theorem Rep.newWord (R : Rep base h p s) (hb : base ≤ h.size) (n : Nat) : Stp base h (h.push (.cells (List.replicate n (wordV 0)).toArray 30 (0, 0))) p p s { s with WS := upd s.WS h.size (List.replicate n 0) } := by
  have E := Ext.push h (.cells (List.replicate n (wordV 0)).toArray 30 (0, 0))
  have R' := R.ext E
  refine ⟨⟨R'.sp, R'.hp, R'.yo, R'.oo, R'.fo, R'.rs, ?_, R'.ne, R'.bs⟩, E.mono fun k _ hk => hk.elim, fun j hj => ?_⟩
  · intro g l hg
    by_cases e : g = h.size
    · subst e
      simp only [upd_eq, Option.some.injEq] at hg
      subst hg
      exact ⟨hb, by simp [wordV]⟩
    · simp only [upd_ne e] at hg
      exact R'.ws g l hg
  · by_cases e : j = h.size
    · exact .inr (by omega)
    · refine .inl ?_
      unfold foot at hj ⊢
      simp only [upd_ne e] at hj
      exact hj
theorem Own_take {h : Heap} {e : TypeId} {size n g c : Nat} {ys : List Value} (H : Own h base e size (.slice (some ⟨g, 0, none⟩) n c) n ys) {m : Nat} (hm : m ≤ n) : Own h base e size (.slice (some ⟨g, 0, none⟩) m c) m (ys.take (m * size)) := by
  obtain ⟨hl, h0⟩ := H
  rcases h0 with ⟨hv, _⟩ | ⟨g', cap, cur, fz, hv, hb, hg, hfz, hnc, hcm, hcs, htk⟩
  · cases hv
  · cases hv
    have := Nat.mul_le_mul_right size hm
    refine ⟨by rw [List.length_take]; omega, .inr ⟨g, c, cur, fz, rfl, hb, hg, hfz, by omega, hcm, hcs, ?_⟩⟩
    rw [← htk, List.take_take, Nat.min_eq_left this]
theorem Rep.setYoung (R : Rep base h p s) {h' : Heap} (F : Fr (fun k => k = p.Y) h h') {l : List CP} (hl : l.length = s.young.length) (O1 : Own h' base 85 7 (.slice (some ⟨p.Y, 0, none⟩) s.young.length p.yc) s.young.length (rows l)) :
    Stp base h h' p p s { s with young := l } := by
  have D := R.dis
  have sm : ∀ j, foot p s j → j ≠ p.Y → h'[j]? = h[j]? := fun j hj hn => F.same j (R.lt hj).2 hn
  refine ⟨⟨?_, ?_, ?_, R.oo.fr F ?_, R.fo.fr F ?_, ?_, ?_, R.ne, R.bs⟩, fr_foot F (.inr (.inr (.inl rfl))), fun j hj => .inl hj⟩
  · rw [sm _ (.inl rfl) D.sy]; exact R.sp
  · rw [sm _ (.inr (.inl rfl)) D.hy]; simp only [hl]; exact R.hp
  · simp only [hl]; exact O1
  · intro j hj e; cases hj; exact D.yo e.symm
  · intro j hj e; exact (D.fv j hj).2.2.1 e
  · intro g l hg
    obtain ⟨h1, h2, h3⟩ := R.rs g l hg
    exact ⟨h1, by rw [sm g (.inr (.inr (.inr (.inr (.inr (.inl (by rw [hg]; simp))))))) (D.rs g (by rw [hg]; simp)).2.2.1]; exact h2, h3⟩
  · intro g l hg
    obtain ⟨h1, h2⟩ := R.ws g l hg
    exact ⟨h1, by rw [sm g (.inr (.inr (.inr (.inr (.inr (.inr (by rw [hg]; simp))))))) (D.ws g (by rw [hg]; simp)).2.2.1]; exact h2⟩
theorem Rep.setOld (R : Rep base h p s) {h' : Heap} (F : Fr (fun k => k = p.O) h h') {l : List CP} (hl : l.length = s.old.length) (O1 : Own h' base 85 7 (.slice (some ⟨p.O, 0, none⟩) s.old.length p.oc) s.old.length (rows l)) :
    Stp base h h' p p s { s with old := l } := by
  have D := R.dis
  have sm : ∀ j, foot p s j → j ≠ p.O → h'[j]? = h[j]? := fun j hj hn => F.same j (R.lt hj).2 hn
  refine ⟨⟨?_, ?_, R.yo.fr F ?_, ?_, R.fo.fr F ?_, ?_, ?_, R.ne, R.bs⟩, fr_foot F (.inr (.inr (.inr (.inl rfl)))), fun j hj => .inl hj⟩
  · rw [sm _ (.inl rfl) D.so]; exact R.sp
  · rw [sm _ (.inr (.inl rfl)) D.ho]; simp only [hl]; exact R.hp
  · intro j hj e; cases hj; exact D.yo e
  · simp only [hl]; exact O1
  · intro j hj e; exact (D.fv j hj).2.2.2 e
  · intro g l hg
    obtain ⟨h1, h2, h3⟩ := R.rs g l hg
    exact ⟨h1, by rw [sm g (.inr (.inr (.inr (.inr (.inr (.inl (by rw [hg]; simp))))))) (D.rs g (by rw [hg]; simp)).2.2.2.1]; exact h2, h3⟩
  · intro g l hg
    obtain ⟨h1, h2⟩ := R.ws g l hg
    exact ⟨h1, by rw [sm g (.inr (.inr (.inr (.inr (.inr (.inr (by rw [hg]; simp))))))) (D.ws g (by rw [hg]; simp)).2.2.2.1]; exact h2⟩
/-! ### Where a thing lies -/
/-- The thing of a reference. -/
def look (s : St) (r : Nat) : Option CP := if r < 2147483648 then s.old[r]? else s.young[r - 2147483648]?
def adrB (p : Ph) (r : Nat) : Nat := if r < 2147483648 then p.O else p.Y
def adrO (r : Nat) : Nat := if r < 2147483648 then r * 7 else (r - 2147483648) * 7
def setC (s : St) (r : Nat) (c : CP) : St := if r < 2147483648 then { s with old := s.old.set r c } else { s with young := s.young.set (r - 2147483648) c }
theorem Own_at {h : Heap} {e : TypeId} {size n g c : Nat} {ys : List Value} (H : Own h base e size (.slice (some ⟨g, 0, none⟩) n c) n ys) {q : Nat} {u : Value} (hq : ys[q]? = some u) : Go.Vc.cellAt h ⟨g, q, none⟩ = some u := by
  have hl : q < ys.length := (List.getElem?_eq_some_iff.1 hq).1
  obtain ⟨⟨w, hw, hc⟩, _⟩ := Own_cell H (p := q) (by rw [← H.1]; exact hl)
  rw [hq] at hw; cases hw; exact hc
theorem Rep.at (R : Rep base h p s) {r : Nat} {c : CP} (hr : look s r = some c) : ∀ j v, c.row[j]? = some v → cellAt h ⟨adrB p r, adrO r + j, none⟩ = some v := by
  intro j v hv
  have hj : j < 7 := (List.getElem?_eq_some_iff.1 hv).1
  unfold look at hr
  unfold adrB adrO
  split at hr
  · next h1 =>
    rw [if_pos h1, if_pos h1]
    exact Own_at R.oo (by rw [rows_get hr hj]; exact hv)
  · next h1 =>
    rw [if_neg h1, if_neg h1]
    exact Own_at R.yo (by rw [rows_get hr hj]; exact hv)
theorem Rep.frozen (R : Rep base h p s) {r : Nat} {c : CP} (hr : look s r = some c) {j : Nat} (hj : j < 7) : frozenAt h ⟨adrB p r, adrO r + j, none⟩ = false := by
  unfold look at hr
  unfold adrB adrO
  split at hr
  · next h1 =>
    rw [if_pos h1, if_pos h1]
    have hl := (List.getElem?_eq_some_iff.1 hr).1
    exact (Own_cell R.oo (p := r * 7 + j) (by omega)).2.1
  · next h1 =>
    rw [if_neg h1, if_neg h1]
    have hl := (List.getElem?_eq_some_iff.1 hr).1
    exact (Own_cell R.yo (p := (r - 2147483648) * 7 + j) (by omega)).2.1
theorem Rep.setc (R : Rep base h p s) {r j : Nat} {c c' : CP} {v : Value} (hr : look s r = some c) (hj : j < 7) (hc : c'.row = c.row.set j v) : Stp base h (setAt h ⟨adrB p r, adrO r + j, none⟩ v) p p s (setC s r c') := by
  unfold look at hr
  unfold adrB adrO setC
  split at hr
  · next h1 =>
    rw [if_pos h1, if_pos h1, if_pos h1]
    exact R.oldc hr hj hc
  · next h1 =>
    rw [if_neg h1, if_neg h1, if_neg h1]
    exact R.youngc hr hj hc
end
end Go.Proofs.Ytidkokdkldfglaa

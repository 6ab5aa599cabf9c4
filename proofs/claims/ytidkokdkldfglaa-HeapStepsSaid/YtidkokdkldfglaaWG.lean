/- A thing made by the reference: plainly, and in memory. No condition. -/
import Derived.Test.YtidkokdkldfglaaWF
namespace Go.Proofs.Ytidkokdkldfglaa
open Go.Vc
set_option maxRecDepth 100000
set_option linter.unusedSimpArgs false
set_option linter.unusedVariables false

def newT (g r g' w : Nat) : TP := ⟨some g, r, some g', w, false⟩
theorem get_app1 {α : Type} {l : List α} {x d : α} {j : Nat} (h : (l ++ [x])[j]? = some d) : (j < l.length ∧ l[j]? = some d) ∨ (j = l.length ∧ d = x) := by
  by_cases e : j < l.length
  · rw [List.getElem?_append_left e] at h; exact .inl ⟨e, h⟩
  · rw [List.getElem?_append_right (by omega)] at h
    have hl := (List.getElem?_eq_some_iff.1 h).1
    simp only [List.length_cons, List.length_nil] at hl
    have e0 : j - l.length = 0 := by omega
    rw [e0] at h
    simp only [List.getElem?_cons_zero, Option.some.injEq] at h
    exact .inr ⟨by omega, h.symm⟩
theorem RI.make {m : Ms} {a : AS} (I : RI m a) {k r w g g' : Nat} (hg : m.RS g = none) (hg' : m.WS g' = none) (hr : r ≤ 16384) (hw : w ≤ 16384) (hu : m.used + (2 + r + w) ≤ m.limit) :
    RI { L := m.L ++ [newT g r g' w], roots := m.roots.set k m.L.length, limit := m.limit, used := m.used + (2 + r + w), RS := upd m.RS g (List.replicate r 0), WS := upd m.WS g' (List.replicate w 0) } { grow a r w with roots := a.roots.set k a.things.length } := by
  have n0 : 0 < a.things.length := (List.getElem?_eq_some_iff.1 I.ai.a0).1
  have tg : ∀ (j : Nat) d, (a.things ++ [(List.replicate r 0, List.replicate w 0)])[j]? = some d → (j < a.things.length ∧ a.things[j]? = some d) ∨ (j = a.things.length ∧ d = (List.replicate r 0, List.replicate w 0)) := fun j d h => get_app1 h
  have lg : ∀ (j : Nat) d, (m.L ++ [newT g r g' w])[j]? = some d → (j < a.things.length ∧ m.L[j]? = some d) ∨ (j = a.things.length ∧ d = newT g r g' w) := fun j d h => by
    have := get_app1 h
    rw [I.len] at this
    exact this
  have A' : AInv { grow a r w with roots := a.roots.set k a.things.length } := by
    refine ⟨by simpa using I.ai.rt, fun u hu => ?_, fun j d hj x hx => ?_, ?_, fun j d hj => ?_⟩
    · show u < (a.things ++ [_]).length
      simp only [List.length_append, List.length_cons, List.length_nil]
      rcases List.mem_or_eq_of_mem_set hu with h | h
      · have := I.ai.rv u h; omega
      · omega
    · show x < (a.things ++ [_]).length
      simp only [List.length_append, List.length_cons, List.length_nil]
      rcases tg j d hj with h | h
      · have := I.ai.tv j d h.2 x hx; omega
      · rw [h.2] at hx
        have := (List.mem_replicate.1 hx).2
        omega
    · show (a.things ++ [_])[0]? = _
      rw [List.getElem?_append_left n0]; exact I.ai.a0
    · rcases tg j d hj with h | h
      · exact I.ai.sz j d h.2
      · rw [h.2]; simp; omega
  have sub : ∀ u, AR { grow a r w with roots := a.roots.set k a.things.length } u → u = 0 ∨ u = a.things.length ∨ AR a u := fun u hu => ar_sub (a' := { grow a r w with roots := a.roots.set k a.things.length }) (P := fun u => u = 0 ∨ u = a.things.length ∨ AR a u) (fun x hx => by
    rcases List.mem_or_eq_of_mem_set hx with h | h
    · exact .inr (.inr (.root h))
    · exact .inr (.inl h)) (fun u d hu h1 x hx => by
    rcases tg u d h1 with h | h
    · rcases hu with e | e | e
      · subst e
        rw [I.ai.a0] at h
        rw [← Option.some.inj h.2] at hx; cases hx
      · omega
      · exact .inr (.inr (.step e h.2 hx))
    · rw [h.2] at hx
      exact .inl (List.mem_replicate.1 hx).2) hu
  have live : ∀ (j : Nat) c, j ≠ 0 → m.L[j]? = some c → c.gone = false → (∀ q, c.rg = some q → q ≠ g) ∧ ∀ q, c.wg = some q → q ≠ g' := fun j c h0 hc hd => by
    have hl : j < a.things.length := by rw [← I.len]; exact (List.getElem?_eq_some_iff.1 hc).1
    obtain ⟨⟨g1, e1, e2, _⟩, ⟨g2, f1, f2, _⟩⟩ := I.th j c _ h0 hc (List.getElem?_eq_getElem hl) hd
    refine ⟨fun q hq e => ?_, fun q hq e => ?_⟩
    · rw [e1] at hq; cases hq; subst e; rw [hg] at e2; cases e2
    · rw [f1] at hq; cases hq; subst e; rw [hg'] at f2; cases f2
  refine ⟨A', by show (m.L ++ [_]).length = (a.things ++ [_]).length; rw [List.length_append, List.length_append, I.len]; rfl, by show m.roots.set _ _ = _; rw [I.ro, I.len], I.li, I.ll, fun j c d h0 hc hd hcg => ?_, fun j c h0 hc hcg hj => ?_, fun c hc => ?_, fun i j c d q hi hj hc hd hcg hdg h1 h2 => ?_, fun i j c d q hi hj hc hd hcg hdg h1 h2 => ?_, ?_, hu⟩
  · rcases lg j c hc with h | h
    · rcases tg j d hd with t | t
      · obtain ⟨⟨g1, e1, e2, e3⟩, ⟨g2, f1, f2, f3⟩⟩ := I.th j c d h0 h.2 t.2 hcg
        have L := live j c h0 h.2 hcg
        exact ⟨⟨g1, e1, by show upd _ _ _ _ = _; rw [upd_ne (L.1 _ e1)]; exact e2, e3⟩, ⟨g2, f1, by show upd _ _ _ _ = _; rw [upd_ne (L.2 _ f1)]; exact f2, f3⟩⟩
      · omega
    · rcases tg j d hd with t | t
      · omega
      · rw [h.2, t.2]
        exact ⟨⟨g, rfl, upd_eq, by simp [newT]⟩, ⟨g', rfl, upd_eq, by simp [newT]⟩⟩
  · rcases lg j c hc with h | h
    · rcases sub j hj with e | e | e
      · exact h0 e
      · omega
      · exact I.gn j c h0 h.2 hcg e
    · rw [h.2] at hcg; cases hcg
  · rcases lg 0 c hc with h | h
    · exact I.z c h.2
    · omega
  · rcases lg i c hc with h | h <;> rcases lg j d hd with t | t
    · exact I.dr i j c d q hi hj h.2 t.2 hcg hdg h1 h2
    · rw [t.2] at h2; cases h2
      exact absurd rfl ((live i c hi h.2 hcg).1 _ h1)
    · rw [h.2] at h1; cases h1
      exact absurd rfl ((live j d hj t.2 hdg).1 _ h2)
    · omega
  · rcases lg i c hc with h | h <;> rcases lg j d hd with t | t
    · exact I.dw i j c d q hi hj h.2 t.2 hcg hdg h1 h2
    · rw [t.2] at h2; cases h2
      exact absurd rfl ((live i c hi h.2 hcg).2 _ h1)
    · rw [h.2] at h1; cases h1
      exact absurd rfl ((live j d hj t.2 hdg).2 _ h2)
    · omega
  · obtain ⟨n, T1, T2⟩ := I.us
    obtain ⟨n', T3⟩ := total_ex A'
    refine ⟨n', T3, ?_⟩
    have := total_add (N := a.things.length) (s := 2 + r + w) T1 T3 fun t t0 ht => by
      have e1 : ∀ x : Nat, aszN { grow a r w with roots := a.roots.set k a.things.length } x = asz ((a.things ++ [(List.replicate r 0, List.replicate w 0)]).getD x ([], [])) := fun x => rfl
      rcases sub t ht with h | h | h
      · exact absurd h t0
      · refine .inl ⟨h, ?_⟩
        rw [e1, h, List.getD_eq_getElem?_getD, List.getElem?_append_right (Nat.le_refl _), Nat.sub_self]
        simp [asz]
      · have hl := h.lt I.ai
        refine .inr ⟨h, by omega, ?_⟩
        rw [e1, List.getD_eq_getElem?_getD, List.getElem?_append_left hl]
        unfold aszN
        rw [List.getD_eq_getElem?_getD]
    show n' ≤ m.used + (2 + r + w)
    omega
section
variable {base : Nat} {h : Heap} {p : Pm} {s : Ms}
/-- The new blocks. -/
theorem RepM.blks (R : RepM base h p s) (hb : base ≤ h.size) {h' : Heap} (E : Ext h h') {g r g' w : Nat} (g1 : h.size ≤ g) (g2 : h.size ≤ g')
    (b1 : h'[g]? = some (.cells ((List.replicate r 0).map intV).toArray 3 (0, 0))) (b2 : h'[g']? = some (.cells ((List.replicate w 0).map wordV).toArray 30 (0, 0))) :
    StM base h h' p p s { s with RS := upd s.RS g (List.replicate r 0), WS := upd s.WS g' (List.replicate w 0) } := by
  have R' := R.ext E
  refine ⟨⟨R'.mp, R'.lo, R'.rp, fun q l hq => ?_, fun q l hq => ?_, R'.bs⟩, E.mono fun _ _ h => h.elim, fun j hj => ?_⟩
  · by_cases e : q = g
    · subst e
      simp only [upd_eq, Option.some.injEq] at hq
      subst hq
      exact ⟨by omega, b1, fun e => by have := (R.lt (.inr (.inr (.inl rfl)))).2; omega⟩
    · simp only [upd_ne e] at hq
      exact R'.rs q l hq
  · by_cases e : q = g'
    · subst e
      simp only [upd_eq, Option.some.injEq] at hq
      subst hq
      exact ⟨by omega, b2⟩
    · simp only [upd_ne e] at hq
      exact R'.ws q l hq
  · by_cases e : j = g
    · exact .inr (by omega)
    by_cases e' : j = g'
    · exact .inr (by omega)
    refine .inl ?_
    unfold footM at hj ⊢
    simp only [upd_ne e, upd_ne e'] at hj
    exact hj
/-- A thing is put behind the others. -/
theorem RepM.addL (R : RepM base h p s) {h1 : Heap} {v' : Value} {c : TP} (O1 : Own h1 base 65 3 v' (s.L.length + 1) (rows3 s.L ++ c.row)) (F1 : Fr (fun k => k = p.Lb) h h1)
    (hv : ∀ k, v'.ownBlock = some k → k = p.Lb ∨ h.size ≤ k) :
    ∃ O' oc', v' = .slice (some ⟨O', 0, none⟩) (s.L.length + 1) oc' ∧ StM base h (setAt h1 ⟨p.M, 0, none⟩ v') p { p with Lb := O', lc := oc' } s { s with L := s.L ++ [c] } := by
  have D := R.dis
  obtain ⟨O', oc', rfl⟩ := Own_pos O1
  refine ⟨O', oc', rfl, ?_⟩
  have hO : O' = p.Lb ∨ h.size ≤ O' := hv O' rfl
  have F2 : Fr (fun k => k = p.M) h1 (setAt h1 ⟨p.M, 0, none⟩ (.slice (some ⟨O', 0, none⟩) (s.L.length + 1) oc')) := fr_set
  have F : Fr (fun k => k = p.Lb ∨ k = p.M) h (setAt h1 ⟨p.M, 0, none⟩ (.slice (some ⟨O', 0, none⟩) (s.L.length + 1) oc')) := Fr.trans F1 F2 (fun _ _ h => .inl h) (fun _ _ h => .inr h)
  have sm : ∀ j, footM p s j → j ≠ p.Lb → j ≠ p.M → (setAt h1 ⟨p.M, 0, none⟩ (.slice (some ⟨O', 0, none⟩) (s.L.length + 1) oc'))[j]? = h[j]? := fun j hj hn hm => F.same j (R.lt hj).2 (by simp [hn, hm])
  have ne' : ∀ j, footM p s j → j ≠ p.Lb → j ≠ O' := fun j hj hn e => by
    have := (R.lt hj).2
    rcases hO with h1 | h1
    · exact hn (e.trans h1)
    · omega
  have hp1 : h1[p.M]? = h[p.M]? := F1.same _ (R.lt (.inl rfl)).2 D.ml
  have hp := R.mp
  rw [← hp1] at hp
  refine ⟨⟨?_, ?_, ?_, ?_, ?_, R.bs⟩, F.mono fun k _ hk => ?_, fun j hj => ?_⟩
  · rw [setAt_get hp]
    simp only [List.length_append, List.length_cons, List.length_nil, Nat.zero_add]
    rfl
  · rw [rows3_app, List.length_append, List.length_cons, List.length_nil]
    have := O1.fr F2 (fun k hk e => by
      cases hk
      exact ne' _ (.inl rfl) D.ml e.symm)
    simpa [rows3] using this
  · rw [sm _ (.inr (.inr (.inl rfl))) (Ne.symm D.lr) (Ne.symm D.mr)]; exact R.rp
  · intro g l hg
    obtain ⟨h1, h2, h3⟩ := R.rs g l hg
    have d := D.rs g (by rw [hg]; simp)
    exact ⟨h1, by rw [sm g (.inr (.inr (.inr (.inl (by rw [hg]; simp))))) d.2.1 d.1]; exact h2, h3⟩
  · intro g l hg
    obtain ⟨h1, h2⟩ := R.ws g l hg
    have d := D.ws g (by rw [hg]; simp)
    exact ⟨h1, by rw [sm g (.inr (.inr (.inr (.inr (by rw [hg]; simp))))) d.2.1 d.1]; exact h2⟩
  · rcases hk with rfl | rfl
    · exact .inr (.inl rfl)
    · exact .inl rfl
  · rcases hj with hj | hj | hj | hj | hj
    · exact .inl (.inl hj)
    · rcases hO with h1 | h1
      · exact .inl (.inr (.inl (hj.trans h1)))
      · exact .inr (by rw [hj]; exact h1)
    · exact .inl (.inr (.inr (.inl hj)))
    · exact .inl (.inr (.inr (.inr (.inl hj))))
    · exact .inl (.inr (.inr (.inr (.inr hj))))
end
end Go.Proofs.Ytidkokdkldfglaa

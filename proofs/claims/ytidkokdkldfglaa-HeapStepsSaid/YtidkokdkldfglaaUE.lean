/- The space plainly: a reference is set, a thing is made. No condition. -/
import Derived.Test.YtidkokdkldfglaaUD
namespace Go.Proofs.Ytidkokdkldfglaa
open Go.Vc
set_option maxRecDepth 100000
set_option linter.unusedSimpArgs false
set_option linter.unusedVariables false

theorem setR_law {s : St} {a : AS} {R : Nat → Nat → Prop} (I : Inv s) (H : SimR s a R) {r t : Nat} {c : CP} {th : List Nat × List Nat} {g k x y : Nat} {l : List Nat} (hr : R r t) (hz : r ≠ 0) (hl : look s r = some c) (ht : a.things[t]? = some th)
    (hg : c.rg = some g) (hw : s.RS g = some l) (hx : R x y) (hs : r < 2147483648 → 2147483648 ≤ x → c.seen = true) : Inv (setR s g (l.set k x)) ∧ SimR (setR s g (l.set k x)) { a with things := a.things.set t (th.1.set k y, th.2) } R := by
  have wne : ∀ r' c', look s r' = some c' → r' ≠ r → c'.rg ≠ some g := fun r' c' h1 h2 h3 => h2 (I.dr r' r c' c g h1 hl h3 hg)
  have wl' : ∀ c', c'.rg ≠ some g → rl (setR s g (l.set k x)) c' = rl s c' := by
    intro c' hne
    unfold rl setR
    cases hc : c'.rg with
    | none => rfl
    | some g' =>
      simp only [Option.bind_some]
      rw [upd_ne (by intro e; subst e; exact hne hc)]
  have vx := H.valid I hx
  have rle : rl (setR s g (l.set k x)) c = l.set k x := rl_of (s := setR s g (l.set k x)) hg (show upd s.RS g (l.set k x) g = _ from upd_eq)
  refine ⟨⟨I.y0, I.o0, I.rt, I.rv, ?_, I.to, I.dr, I.dw, I.sn, I.sy, ?_, I.rf, I.rn, I.fr, I.us, I.ul, I.ll⟩, ⟨H.z, H.zz, H.fn, H.inj, ?_, H.ro, H.li, ?_⟩⟩
  · intro r' c' h0 hv h1
    obtain ⟨a1, a2⟩ := I.ha r' c' h0 hv h1
    refine ⟨?_, a2⟩
    obtain ⟨g', l', e1, e2, e3, e4⟩ := a1
    by_cases e : g' = g
    · subst e
      rw [hw] at e2; cases e2
      refine ⟨g', l.set k x, e1, by show upd s.RS g' _ g' = _; exact upd_eq, by simpa using e3, fun z hz => ?_⟩
      rcases List.mem_or_eq_of_mem_set hz with h2 | h2
      · exact e4 z h2
      · rw [h2]; exact vx
    · exact ⟨g', l', e1, by show upd s.RS g _ g' = _; rw [upd_ne e]; exact e2, e3, e4⟩
  · intro j c' hj z hz h2
    have hj : s.old[j]? = some c' := hj
    have hj2 : j < 2147483648 := by have := I.len; have := (List.getElem?_eq_some_iff.1 hj).1; omega
    have lj : look s j = some c' := by unfold look; rw [if_pos hj2]; exact hj
    by_cases e : j = r
    · subst e
      rw [hl] at lj; cases lj
      rw [rle] at hz
      rcases List.mem_or_eq_of_mem_set hz with h3 | h3
      · exact I.yg j c hj z (by rw [rl_of hg hw]; exact h3) h2
      · subst h3; exact hs hj2 h2
    · rw [wl' c' (wne j c' lj e)] at hz
      exact I.yg j c' hj z hz h2
  · intro r' t' h1 h0
    obtain ⟨v, c', th', b1, b2, b3, b4⟩ := H.ok r' t' h1 h0
    refine ⟨v, c', ?_⟩
    by_cases e : r' = r
    · subst e
      rw [hl] at b1; cases b1
      have := H.fn _ _ _ hr h1; subst this
      rw [ht] at b2; cases b2
      refine ⟨(th.1.set k y, th.2), hl, ?_, b3, ?_⟩
      · show (a.things.set t _)[t]? = _
        rw [List.getElem?_set, if_pos rfl, if_pos (List.getElem?_eq_some_iff.1 ht).1]
      · rw [rle]
        rw [rl_of hg hw] at b4
        exact b4.set hx k
    · have : t' ≠ t := fun e2 => e (H.inj r' r t (by rw [← e2]; exact h1) hr)
      refine ⟨th', b1, ?_, b3, ?_⟩
      · show (a.things.set t _)[t']? = _
        rw [List.getElem?_set, if_neg (Ne.symm this)]; exact b2
      · rw [wl' c' (wne r' c' b1 e)]; exact b4
  · show (a.things.set t _)[0]? = _
    have : t ≠ 0 := fun e => hz ((H.zz r t hr).2 e)
    rw [List.getElem?_set, if_neg this]; exact H.a0
/-- Among the old that refer to the young. -/
def markS (s : St) (r : Nat) (c : CP) : St := { s with old := s.old.set r { c with seen := true }, refers := s.refers ++ [r] }
theorem look_mark {s : St} {r : Nat} {c : CP} (hr : s.old[r]? = some c) (h31 : r < 2147483648) (j : Nat) : look (markS s r c) j = if j = r then some { c with seen := true } else look s j := by
  unfold look markS
  by_cases e : j = r
  · subst e
    rw [if_pos h31, if_pos rfl, List.getElem?_set, if_pos rfl, if_pos (List.getElem?_eq_some_iff.1 hr).1]
  · rw [if_neg e]
    split
    · rw [List.getElem?_set, if_neg (Ne.symm e)]
    · rfl
theorem mark_law {s : St} {a : AS} {R : Nat → Nat → Prop} (I : Inv s) (H : SimR s a R) {r : Nat} {c : CP} (hr : s.old[r]? = some c) (hz : r ≠ 0) (hs : c.seen = false) : Inv (markS s r c) ∧ SimR (markS s r c) a R := by
  have il := I.len
  have rlt := (List.getElem?_eq_some_iff.1 hr).1
  have h31 : r < 2147483648 := by omega
  have lr : look s r = some c := by unfold look; rw [if_pos h31]; exact hr
  have lk := look_mark hr h31
  have vl : ∀ x, valid (markS s r c) x ↔ valid s x := by intro x; unfold valid markS; simp
  have back : ∀ j c', look (markS s r c) j = some c' → ∃ c0, look s j = some c0 ∧ c'.rg = c0.rg ∧ c'.rn = c0.rn ∧ c'.wg = c0.wg ∧ c'.wn = c0.wn ∧ c'.to = c0.to := by
    intro j c' hj
    rw [lk] at hj
    split at hj
    · next e => subst e; cases hj; exact ⟨c, lr, rfl, rfl, rfl, rfl, rfl⟩
    · exact ⟨c', hj, rfl, rfl, rfl, rfl, rfl⟩
  have oget : ∀ j c', (markS s r c).old[j]? = some c' → (j = r ∧ c' = { c with seen := true }) ∨ (j ≠ r ∧ s.old[j]? = some c') := by
    intro j c' hj
    unfold markS at hj
    simp only [List.getElem?_set] at hj
    split at hj
    · next e => cases hj; exact .inl ⟨e.symm, rfl⟩
    · next e => exact .inr ⟨Ne.symm e, hj⟩
  have hsum : ∀ f : CP → Nat, f { c with seen := true } = f c → sumF f (markS s r c).old = sumF f s.old := by
    intro f hf
    have := sumF_set (f := f) (c' := { c with seen := true }) hr
    unfold markS
    simp only
    omega
  refine ⟨⟨I.y0, ?_, I.rt, fun x hx => (vl x).2 (I.rv x hx), ?_, ?_, ?_, ?_, ?_, I.sy, ?_, ?_, ?_, I.fr, ?_, I.ul, I.ll⟩, ⟨H.z, H.zz, H.fn, H.inj, ?_, H.ro, H.li, H.a0⟩⟩
  · unfold markS
    simp only [List.getElem?_set]
    rw [if_neg hz]; exact I.o0
  · intro j c' h0 hv hj
    obtain ⟨c0, b1, b2, b3, b4, b5, _⟩ := back j c' hj
    obtain ⟨⟨g, l, e1, e2, e3, e4⟩, ⟨g', l', f1, f2, f3⟩⟩ := I.ha j c0 h0 ((vl j).1 hv) b1
    exact ⟨⟨g, l, b2.trans e1, e2, e3.trans b3.symm, fun x hx => (vl x).2 (e4 x hx)⟩, ⟨g', l', b4.trans f1, f2, f3.trans b5.symm⟩⟩
  · intro j c' hj
    obtain ⟨c0, b1, _, _, _, _, b6⟩ := back j c' hj
    rw [b6]; exact I.to j c0 b1
  · intro j j' c1 c2 g h1 h2 h3 h4
    obtain ⟨d1, b1, b2, _⟩ := back j c1 h1
    obtain ⟨d2, b1', b2', _⟩ := back j' c2 h2
    exact I.dr j j' d1 d2 g b1 b1' (b2.symm.trans h3) (b2'.symm.trans h4)
  · intro j j' c1 c2 g h1 h2 h3 h4
    obtain ⟨d1, b1, _, _, b2, _⟩ := back j c1 h1
    obtain ⟨d2, b1', _, _, b2', _⟩ := back j' c2 h2
    exact I.dw j j' d1 d2 g b1 b1' (b2.symm.trans h3) (b2'.symm.trans h4)
  · intro j c' hj hsn
    show j ∈ s.refers ++ [r]
    rcases oget j c' hj with ⟨rfl, _⟩ | ⟨_, h2⟩
    · simp
    · exact List.mem_append_left _ (I.sn j c' h2 hsn)
  · intro j c' hj x hx h2
    rcases oget j c' hj with ⟨rfl, rfl⟩ | ⟨_, h3⟩
    · rfl
    · exact I.yg j c' h3 x hx h2
  · intro j hj
    have hj : j ∈ s.refers ++ [r] := hj
    show j ≠ 0 ∧ j < (s.old.set r { c with seen := true }).length
    rw [List.length_set]
    rcases List.mem_append.1 hj with h1 | h1
    · exact I.rf j h1
    · simp only [List.mem_singleton] at h1; subst h1; exact ⟨hz, rlt⟩
  · show (s.refers ++ [r]).length = sumF seenN (s.old.set r { c with seen := true })
    have := sumF_set (f := seenN) (c' := { c with seen := true }) hr
    have h1 : seenN { c with seen := true } = 1 := rfl
    have h2 : seenN c = 0 := by unfold seenN; rw [hs]; rfl
    have := I.rn
    simp only [List.length_append, List.length_cons, List.length_nil]
    omega
  · show s.used + 2 = s.fresh + wsum (markS s r c).old
    unfold wsum
    rw [hsum CP.size rfl]; exact I.us
  · intro r' t' h1 h0
    obtain ⟨v, c', th', b1, b2, b3, b4⟩ := H.ok r' t' h1 h0
    refine ⟨(vl r').2 v, if r' = r then { c with seen := true } else c', th', ?_, b2, ?_, ?_⟩
    · rw [lk]; split
      · rfl
      · exact b1
    · split
      · next e => subst e; rw [lr] at b1; cases b1; exact b3
      · exact b3
    · split
      · next e => subst e; rw [lr] at b1; cases b1; exact b4
      · exact b4
/-! ### A thing is made -/
def newC (g refs g' words : Nat) : CP := ⟨some g, refs, some g', words, 0, false⟩
def addO (s : St) (g refs g' words : Nat) : St :=
  { s with used := s.used + (2 + refs + words), RS := upd s.RS g (List.replicate refs 0), WS := upd s.WS g' (List.replicate words 0), old := s.old ++ [newC g refs g' words] }
def addY (s : St) (g refs g' words : Nat) : St :=
  { s with used := s.used + (2 + refs + words), RS := upd s.RS g (List.replicate refs 0), WS := upd s.WS g' (List.replicate words 0), fresh := s.fresh + (2 + refs + words), young := s.young ++ [newC g refs g' words] }
def grow (a : AS) (refs words : Nat) : AS := { a with things := a.things ++ [(List.replicate refs 0, List.replicate words 0)] }
/-- A state that has one thing more: what follows. -/
theorem add_law {s s' : St} {a : AS} {R : Nat → Nat → Prop} (I : Inv s) (H : SimR s a R) {g g' refs words new : Nat} (hg : s.RS g = none) (hg' : s.WS g' = none)
    (lk : ∀ j, look s' j = if j = new then some (newC g refs g' words) else look s j) (vl : ∀ x, valid s' x ↔ (x = new ∨ valid s x)) (nv : ¬ valid s new) (n0 : new ≠ 0) (n1 : new ≠ 2147483648) (nl : new < 4294967296) (hno : look s new = none)
    (eR : s'.RS = upd s.RS g (List.replicate refs 0)) (eW : s'.WS = upd s.WS g' (List.replicate words 0)) (er : s'.roots = s.roots) (el : s'.limit = s.limit) (ef : s'.refers = s.refers)
    (y0 : s'.young[0]? = some nul) (o0 : s'.old[0]? = some nul) (ol : ∀ (j : Nat) c, s'.old[j]? = some c → s.old[j]? = some c ∨ c = newC g refs g' words) (yl : ∀ (j : Nat) c, s'.young[j]? = some c → s.young[j]? = some c ∨ c = newC g refs g' words) (hle : s.old.length ≤ s'.old.length)
    (hrn : sumF seenN s'.old = sumF seenN s.old) (fr : s'.fresh + 2 = wsum s'.young) (us : s'.used + 2 = s'.fresh + wsum s'.old) (ul : s'.used ≤ s'.limit) (old31 : ∀ (j : Nat) c, s.old[j]? = some c → look s j = some c ∧ j ≠ new) :
    Inv s' ∧ SimR s' (grow a refs words) (fun r t => R r t ∨ (r = new ∧ t = a.things.length)) := by
  have rgn : ∀ r c, look s r = some c → c.rg ≠ some g := by
    intro r c h1 h2
    by_cases h0 : c = nul
    · subst h0; cases h2
    · have hv : valid s r ∧ r ≠ 0 := by
        refine ⟨?_, fun e => ?_⟩
        · unfold look at h1
          split at h1
          · next h3 => exact .inl ⟨h3, (List.getElem?_eq_some_iff.1 h1).1⟩
          · next h3 =>
            refine .inr ⟨?_, (List.getElem?_eq_some_iff.1 h1).1⟩
            rcases Nat.lt_or_ge 2147483648 r with h4 | h4
            · exact h4
            · have : r - 2147483648 = 0 := by omega
              rw [this, I.y0] at h1; cases h1; exact absurd rfl h0
        · subst e
          rw [I.look0.1] at h1; cases h1; exact h0 rfl
      obtain ⟨gg, l, e1, e2, _⟩ := (I.ha r c hv.2 hv.1 h1).r
      rw [h2] at e1; cases e1
      rw [hg] at e2; cases e2
  have wgn : ∀ r c, look s r = some c → c.wg ≠ some g' := by
    intro r c h1 h2
    by_cases h0 : c = nul
    · subst h0; cases h2
    · have hv : valid s r ∧ r ≠ 0 := by
        refine ⟨?_, fun e => ?_⟩
        · unfold look at h1
          split at h1
          · next h3 => exact .inl ⟨h3, (List.getElem?_eq_some_iff.1 h1).1⟩
          · next h3 =>
            refine .inr ⟨?_, (List.getElem?_eq_some_iff.1 h1).1⟩
            rcases Nat.lt_or_ge 2147483648 r with h4 | h4
            · exact h4
            · have : r - 2147483648 = 0 := by omega
              rw [this, I.y0] at h1; cases h1; exact absurd rfl h0
        · subst e
          rw [I.look0.1] at h1; cases h1; exact h0 rfl
      obtain ⟨gg, l, e1, e2, _⟩ := (I.ha r c hv.2 hv.1 h1).w
      rw [h2] at e1; cases e1
      rw [hg'] at e2; cases e2
  have rls : ∀ c, c.rg ≠ some g → rl s' c = rl s c := by
    intro c hc
    unfold rl; rw [eR]
    cases hx : c.rg with
    | none => rfl
    | some k => simp only [Option.bind_some]; rw [upd_ne (by intro e; subst e; exact hc hx)]
  have wls : ∀ c, c.wg ≠ some g' → wl s' c = wl s c := by
    intro c hc
    unfold wl; rw [eW]
    cases hx : c.wg with
    | none => rfl
    | some k => simp only [Option.bind_some]; rw [upd_ne (by intro e; subst e; exact hc hx)]
  have back : ∀ j c, look s' j = some c → (j = new ∧ c = newC g refs g' words) ∨ (j ≠ new ∧ look s j = some c) := by
    intro j c hj
    rw [lk] at hj
    split at hj
    · next e => cases hj; exact .inl ⟨e, rfl⟩
    · next e => exact .inr ⟨e, hj⟩
  have v0 : valid s' 0 := (vl 0).2 (.inr I.look0.2)
  refine ⟨⟨y0, o0, by rw [er]; exact I.rt, fun x hx => by rw [er] at hx; exact (vl x).2 (.inr (I.rv x hx)), ?_, ?_, ?_, ?_, ?_, ?_, ?_, ?_, by rw [ef, I.rn, hrn], fr, us, ul, by rw [el]; exact I.ll⟩,
    ⟨.inl H.z, ?_, ?_, ?_, ?_, ?_, by rw [el]; exact H.li, ?_⟩⟩
  · intro j c h0 hv hj
    rcases back j c hj with ⟨_, rfl⟩ | ⟨hne, hj⟩
    · refine ⟨⟨g, List.replicate refs 0, rfl, by rw [eR]; exact upd_eq, by simp [newC], fun x hx => ?_⟩, ⟨g', List.replicate words 0, rfl, by rw [eW]; exact upd_eq, by simp [newC]⟩⟩
      rw [List.eq_of_mem_replicate hx]; exact v0
    · have hv' : valid s j := by
        rcases (vl j).1 hv with h1 | h1
        · exact absurd h1 hne
        · exact h1
      obtain ⟨⟨gg, l, e1, e2, e3, e4⟩, ⟨gg', l', f1, f2, f3⟩⟩ := I.ha j c h0 hv' hj
      refine ⟨⟨gg, l, e1, ?_, e3, fun x hx => (vl x).2 (.inr (e4 x hx))⟩, ⟨gg', l', f1, ?_, f3⟩⟩
      · rw [eR, upd_ne (by intro e; subst e; exact rgn j c hj e1)]; exact e2
      · rw [eW, upd_ne (by intro e; subst e; exact wgn j c hj f1)]; exact f2
  · intro j c hj
    rcases back j c hj with ⟨_, rfl⟩ | ⟨_, hj⟩
    · rfl
    · exact I.to j c hj
  · intro j j' c c' k h1 h2 h3 h4
    rcases back j c h1 with ⟨x1, rfl⟩ | ⟨x1, h1⟩ <;> rcases back j' c' h2 with ⟨x2, rfl⟩ | ⟨x2, h2⟩
    · rw [x1, x2]
    · cases h3; exact absurd h4 (rgn j' c' h2)
    · cases h4; exact absurd h3 (rgn j c h1)
    · exact I.dr j j' c c' k h1 h2 h3 h4
  · intro j j' c c' k h1 h2 h3 h4
    rcases back j c h1 with ⟨x1, rfl⟩ | ⟨x1, h1⟩ <;> rcases back j' c' h2 with ⟨x2, rfl⟩ | ⟨x2, h2⟩
    · rw [x1, x2]
    · cases h3; exact absurd h4 (wgn j' c' h2)
    · cases h4; exact absurd h3 (wgn j c h1)
    · exact I.dw j j' c c' k h1 h2 h3 h4
  · intro j c hj hs
    rw [ef]
    rcases ol j c hj with h1 | rfl
    · exact I.sn j c h1 hs
    · cases hs
  · intro j c hj
    rcases yl j c hj with h1 | rfl
    · exact I.sy j c h1
    · rfl
  · intro j c hj x hx h2
    rcases ol j c hj with h1 | rfl
    · obtain ⟨l1, _⟩ := old31 j c h1
      rw [rls c (rgn j c l1)] at hx
      exact I.yg j c h1 x hx h2
    · rw [rl_of (s := s') (c := newC g refs g' words) rfl (by rw [eR]; exact upd_eq)] at hx
      have := List.eq_of_mem_replicate hx; omega
  · intro j hj
    rw [ef] at hj
    have := I.rf j hj
    exact ⟨this.1, by omega⟩
  · intro r t hr
    rcases hr with hr | ⟨rfl, rfl⟩
    · exact H.zz r t hr
    · have := (List.getElem?_eq_some_iff.1 H.a0).1
      exact ⟨fun e => absurd e n0, fun e => by omega⟩
  · intro r t t' h1 h2
    rcases h1 with h1 | ⟨rfl, rfl⟩ <;> rcases h2 with h2 | ⟨h2, h3⟩
    · exact H.fn r t t' h1 h2
    · subst h2; exact absurd (H.valid I h1) nv
    · exact absurd (H.valid I h2) nv
    · exact h3.symm
  · intro r r' t h1 h2
    have tb : ∀ r t, R r t → t < a.things.length := by
      intro r t hr
      by_cases e : r = 0
      · have := (H.zz r t hr).1 e; subst this; exact (List.getElem?_eq_some_iff.1 H.a0).1
      · obtain ⟨_, c, th, _, b2, _⟩ := H.ok r t hr e
        exact (List.getElem?_eq_some_iff.1 b2).1
    rcases h1 with h1 | ⟨rfl, rfl⟩ <;> rcases h2 with h2 | ⟨h2, h3⟩
    · exact H.inj r r' t h1 h2
    · have := tb r t h1; omega
    · have := tb _ _ h2; omega
    · exact h2.symm
  · intro r t hr h0
    rcases hr with hr | ⟨rfl, rfl⟩
    · obtain ⟨v, c, th, b1, b2, b3, b4⟩ := H.ok r t hr h0
      have hne : r ≠ new := by intro e; subst e; exact nv v
      refine ⟨(vl r).2 (.inr v), c, th, by rw [lk, if_neg hne]; exact b1, ?_, ?_, ?_⟩
      · show (a.things ++ _)[t]? = _
        rw [List.getElem?_append_left (List.getElem?_eq_some_iff.1 b2).1]; exact b2
      · rw [wls c (wgn r c b1)]; exact b3
      · rw [rls c (rgn r c b1)]; exact b4.mono fun _ _ h => .inl h
    · refine ⟨(vl r).2 (.inl rfl), newC g refs g' words, (List.replicate refs 0, List.replicate words 0), by rw [lk, if_pos rfl], ?_, ?_, ?_⟩
      · show (a.things ++ _)[a.things.length]? = _
        rw [List.getElem?_append_right (Nat.le_refl _), Nat.sub_self]; rfl
      · exact wl_of (s := s') rfl (by rw [eW]; exact upd_eq)
      · rw [rl_of (s := s') (c := newC g refs g' words) rfl (by rw [eR]; exact upd_eq)]
        exact Rel2.zeros (.inl H.z) refs
  · rw [er]; exact H.ro.mono fun _ _ h => .inl h
  · show (a.things ++ _)[0]? = _
    rw [List.getElem?_append_left (List.getElem?_eq_some_iff.1 H.a0).1]; exact H.a0
theorem addO_law {s : St} {a : AS} {R : Nat → Nat → Prop} (I : Inv s) (H : SimR s a R) {g g' refs words : Nat} (hg : s.RS g = none) (hg' : s.WS g' = none) (hu : s.used + (2 + refs + words) ≤ s.limit) :
    Inv (addO s g refs g' words) ∧ SimR (addO s g refs g' words) (grow a refs words) (fun r t => R r t ∨ (r = s.old.length ∧ t = a.things.length)) := by
  have il := I.len
  have lg : ∀ j, (s.old ++ [newC g refs g' words])[j]? = if j = s.old.length then some (newC g refs g' words) else s.old[j]? := by
    intro j
    rcases Nat.lt_trichotomy j s.old.length with h | h | h
    · rw [if_neg (by omega), List.getElem?_append_left h]
    · subst h; rw [if_pos rfl, List.getElem?_append_right (Nat.le_refl _), Nat.sub_self]; rfl
    · rw [if_neg (by omega), List.getElem?_append_right (by omega), List.getElem?_eq_none (by simp; omega), List.getElem?_eq_none (by omega)]
  have hfr := I.fr
  have hus := I.us
  refine add_law I H hg hg' (new := s.old.length) ?_ ?_ ?_ (by omega) (by omega) (by omega) ?_ rfl rfl rfl rfl rfl I.y0 ?_ ?_ (fun j c h => .inl h) (by simp [addO]) ?_ I.fr ?_ hu ?_
  · intro j
    unfold look addO
    simp only
    rw [lg]
    by_cases e : j = s.old.length
    · subst e; rw [if_pos (by omega), if_pos rfl, if_pos rfl]
    · rw [if_neg e, if_neg e]
  · intro x
    unfold valid addO
    simp only [List.length_append, List.length_cons, List.length_nil]
    omega
  · unfold valid; omega
  · unfold look; rw [if_pos (by omega), List.getElem?_eq_none (Nat.le_refl _)]
  · show (s.old ++ _)[0]? = _
    rw [List.getElem?_append_left (by omega)]; exact I.o0
  · intro j c hj
    have hj : (s.old ++ [newC g refs g' words])[j]? = some c := hj
    rw [lg] at hj
    split at hj
    · cases hj; exact .inr rfl
    · exact .inl hj
  · show sumF seenN (s.old ++ _) = _
    rw [sumF_app, sumF_one]; rfl
  · show s.used + (2 + refs + words) + 2 = s.fresh + wsum (s.old ++ _)
    unfold wsum at hus ⊢
    rw [sumF_app, sumF_one]
    have : (newC g refs g' words).size = 2 + refs + words := rfl
    omega
  · intro j c hj
    have := (List.getElem?_eq_some_iff.1 hj).1
    exact ⟨by unfold look; rw [if_pos (by omega)]; exact hj, by omega⟩
theorem addY_law {s : St} {a : AS} {R : Nat → Nat → Prop} (I : Inv s) (H : SimR s a R) {g g' refs words : Nat} (hg : s.RS g = none) (hg' : s.WS g' = none) (hu : s.used + (2 + refs + words) ≤ s.limit) :
    Inv (addY s g refs g' words) ∧ SimR (addY s g refs g' words) (grow a refs words) (fun r t => R r t ∨ (r = 2147483648 + s.young.length ∧ t = a.things.length)) := by
  have il := I.len
  have lg : ∀ j : Nat, (s.young ++ [newC g refs g' words])[j]? = if j = s.young.length then some (newC g refs g' words) else s.young[j]? := by
    intro j
    rcases Nat.lt_trichotomy j s.young.length with h | h | h
    · rw [if_neg (by omega), List.getElem?_append_left h]
    · subst h; rw [if_pos rfl, List.getElem?_append_right (Nat.le_refl _), Nat.sub_self]; rfl
    · rw [if_neg (by omega), List.getElem?_append_right (by omega), List.getElem?_eq_none (by simp; omega), List.getElem?_eq_none (by omega)]
  have hfr := I.fr
  have hus := I.us
  refine add_law I H hg hg' (new := 2147483648 + s.young.length) ?_ ?_ ?_ (by omega) (by omega) (by omega) ?_ rfl rfl rfl rfl rfl ?_ I.o0 (fun j c h => .inl h) ?_ (Nat.le_refl _) rfl ?_ ?_ hu ?_
  · intro j
    unfold look addY
    simp only
    by_cases e : j = 2147483648 + s.young.length
    · subst e; rw [if_neg (by omega), if_pos rfl, lg, if_pos (by omega)]
    · rw [if_neg e]
      split
      · rfl
      · rw [lg, if_neg (by omega)]
  · intro x
    unfold valid addY
    simp only [List.length_append, List.length_cons, List.length_nil]
    omega
  · unfold valid; omega
  · unfold look; rw [if_neg (by omega), List.getElem?_eq_none (by omega)]
  · show (s.young ++ _)[0]? = _
    rw [List.getElem?_append_left (by omega)]; exact I.y0
  · intro j c hj
    have hj : (s.young ++ [newC g refs g' words])[j]? = some c := hj
    rw [lg] at hj
    split at hj
    · cases hj; exact .inr rfl
    · exact .inl hj
  · show s.fresh + (2 + refs + words) + 2 = wsum (s.young ++ _)
    unfold wsum at hfr ⊢
    rw [sumF_app, sumF_one]
    have : (newC g refs g' words).size = 2 + refs + words := rfl
    omega
  · show s.used + (2 + refs + words) + 2 = s.fresh + (2 + refs + words) + wsum s.old
    omega
  · intro j c hj
    have := (List.getElem?_eq_some_iff.1 hj).1
    exact ⟨by unfold look; rw [if_pos (by omega)]; exact hj, by omega⟩
end Go.Proofs.Ytidkokdkldfglaa

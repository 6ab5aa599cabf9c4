/- The reference's space plainly: what holds between two steps. No condition. -/
import Derived.Test.YtidkokdkldfglaaWA
namespace Go.Proofs.Ytidkokdkldfglaa
open Go.Vc
set_option maxRecDepth 100000
set_option linter.unusedSimpArgs false
set_option linter.unusedVariables false

structure AInv (a : AS) : Prop where
  rt : a.roots.length = 16
  rv : ∀ r ∈ a.roots, r < a.things.length
  tv : ∀ (k : Nat) th, a.things[k]? = some th → ∀ x ∈ th.1, x < a.things.length
  a0 : a.things[0]? = some ([], [])
  sz : ∀ (k : Nat) th, a.things[k]? = some th → th.1.length ≤ 16384 ∧ th.2.length ≤ 16384
theorem AR.lt {a : AS} (I : AInv a) {t : Nat} (h : AR a t) : t < a.things.length := by
  induction h with
  | root h => exact I.rv _ h
  | step _ h1 h2 _ => exact I.tv _ _ h1 _ h2
theorem ar_sub {a' : AS} {P : Nat → Prop} (H1 : ∀ r ∈ a'.roots, P r) (H2 : ∀ t th, P t → a'.things[t]? = some th → ∀ u ∈ th.1, P u) {t : Nat} (h : AR a' t) : P t := by
  induction h with
  | root h => exact H1 _ h
  | step _ h1 h2 ih => exact H2 _ _ ih h1 _ h2
theorem total_ex {a : AS} (I : AInv a) : ∃ n, Total a n := by
  classical
  refine ⟨_, (List.range a.things.length).filter fun t => decide (t ≠ 0 ∧ AR a t), List.Pairwise.filter _ List.nodup_range, fun t => ?_, rfl⟩
  rw [List.mem_filter, List.mem_range, decide_eq_true_eq]
  exact ⟨fun h => h.2, fun h => ⟨h.2.lt I, h⟩⟩
theorem total_le_of {a a' : AS} {n n' : Nat} (h : Total a n) (h' : Total a' n') (H : ∀ t, t ≠ 0 → AR a' t → AR a t ∧ aszN a' t = aszN a t) : n' ≤ n := by
  obtain ⟨l, h1, h2, rfl⟩ := h
  obtain ⟨l', k1, k2, rfl⟩ := h'
  have e : (l'.map (aszN a')) = l'.map (aszN a) := List.map_congr_left fun t ht => (H t ((k2 t).1 ht).1 ((k2 t).1 ht).2).2
  rw [e]
  exact sum_sub k1 fun t ht => (h2 t).2 ⟨((k2 t).1 ht).1, (H t ((k2 t).1 ht).1 ((k2 t).1 ht).2).1⟩
theorem total_add {a a' : AS} {n n' N s : Nat} (h : Total a n) (h' : Total a' n') (H : ∀ t, t ≠ 0 → AR a' t → (t = N ∧ aszN a' t = s) ∨ (AR a t ∧ t ≠ N ∧ aszN a' t = aszN a t)) : n' ≤ n + s := by
  obtain ⟨l, h1, h2, rfl⟩ := h
  obtain ⟨l', k1, k2, rfl⟩ := h'
  let f : Nat → Nat := fun t => if t = N then s else aszN a t
  have e : (l'.map (aszN a')) = l'.map f := List.map_congr_left fun t ht => by
    rcases H t ((k2 t).1 ht).1 ((k2 t).1 ht).2 with ⟨x, y⟩ | ⟨_, x, y⟩
    · show _ = if t = N then s else _; rw [if_pos x, y]
    · show _ = if t = N then s else _; rw [if_neg x, y]
  rw [e]
  have h3 : (l'.map f).sum ≤ ((l.filter (fun t => t != N) ++ [N]).map f).sum := sum_sub k1 fun t ht => by
    rcases H t ((k2 t).1 ht).1 ((k2 t).1 ht).2 with ⟨x, _⟩ | ⟨x, y, _⟩
    · subst x; simp
    · exact List.mem_append_left _ (List.mem_filter.2 ⟨(h2 t).2 ⟨((k2 t).1 ht).1, x⟩, by simpa using y⟩)
  have h4 : ((l.filter (fun t => t != N)).map f).sum ≤ (l.map (aszN a)).sum := by
    have e2 : (l.filter (fun t => t != N)).map f = (l.filter (fun t => t != N)).map (aszN a) := List.map_congr_left fun t ht => by
      have := (List.mem_filter.1 ht).2
      show (if t = N then s else _) = _
      rw [if_neg (by simpa using this)]
    rw [e2]
    exact sum_sub (List.Pairwise.filter _ h1) fun t ht => (List.mem_filter.1 ht).1
  have h5 : f N = s := by show (if N = N then s else _) = _; rw [if_pos rfl]
  rw [List.map_append, List.sum_append] at h3
  simp only [List.map_cons, List.map_nil, List.sum_cons, List.sum_nil] at h3
  omega
structure RI (m : Ms) (a : AS) : Prop where
  ai : AInv a
  len : m.L.length = a.things.length
  ro : m.roots = a.roots
  li : m.limit = a.limit
  ll : m.limit ≤ 16384
  th : ∀ (k : Nat) c th, k ≠ 0 → m.L[k]? = some c → a.things[k]? = some th → c.gone = false →
    (∃ g, c.rg = some g ∧ m.RS g = some th.1 ∧ c.rn = th.1.length) ∧ (∃ g, c.wg = some g ∧ m.WS g = some th.2 ∧ c.wn = th.2.length)
  gn : ∀ (k : Nat) c, k ≠ 0 → m.L[k]? = some c → c.gone = true → ¬ AR a k
  z : ∀ c, m.L[0]? = some c → c.rg = none ∧ c.rn = 0 ∧ c.wg = none ∧ c.wn = 0
  dr : ∀ (i j : Nat) c d g, i ≠ 0 → j ≠ 0 → m.L[i]? = some c → m.L[j]? = some d → c.gone = false → d.gone = false → c.rg = some g → d.rg = some g → i = j
  dw : ∀ (i j : Nat) c d g, i ≠ 0 → j ≠ 0 → m.L[i]? = some c → m.L[j]? = some d → c.gone = false → d.gone = false → c.wg = some g → d.wg = some g → i = j
  us : ∃ n, Total a n ∧ n ≤ m.used
  ul : m.used ≤ m.limit
/-- A thing that can be reached is there. -/
theorem RI.live {m : Ms} {a : AS} (I : RI m a) {t : Nat} (h0 : t ≠ 0) (h : AR a t) : ∃ c g g', m.L[t]? = some c ∧ c.gone = false ∧ a.things[t]? = some (a.things.getD t ([], [])) ∧ c.rg = some g ∧ m.RS g = some (a.things.getD t ([], [])).1 ∧ c.rn = (a.things.getD t ([], [])).1.length ∧
    c.wg = some g' ∧ m.WS g' = some (a.things.getD t ([], [])).2 ∧ c.wn = (a.things.getD t ([], [])).2.length := by
  have hl := h.lt I.ai
  have e : a.things[t]? = some (a.things.getD t ([], [])) := by rw [List.getD_eq_getElem?_getD, List.getElem?_eq_getElem hl]; rfl
  have hc : m.L[t]? = some (m.L[t]'(by rw [I.len]; exact hl)) := by simp
  generalize m.L[t]'(by rw [I.len]; exact hl) = c at hc
  have hg : c.gone = false := by
    cases hx : c.gone with
    | false => rfl
    | true => exact absurd h (I.gn t c h0 hc hx)
  obtain ⟨⟨g, g1, g2, g3⟩, ⟨g', k1, k2, k3⟩⟩ := I.th t c _ h0 hc e hg
  exact ⟨c, g, g', hc, hg, e, g1, g2, g3, k1, k2, k3⟩
theorem rt_root {a : AS} (I : AInv a) {k : Nat} (hk : k < 16) : a.roots[k]? = some (rtN a (k : Int)) ∧ AR a (rtN a (k : Int)) ∧ rtN a (k : Int) < a.things.length := by
  have hl : a.roots[k]? = some (a.roots[k]'(by rw [I.rt]; exact hk)) := by simp
  have e : rtN a (k : Int) = a.roots[k]'(by rw [I.rt]; exact hk) := by unfold rtN; rw [Int.toNat_natCast, List.getD_eq_getElem?_getD, hl]; rfl
  rw [e]
  have hm := List.mem_of_getElem? hl
  exact ⟨hl, .root hm, I.rv _ hm⟩
/-- What is held turns to what can be reached. -/
theorem RI.setRoot {m : Ms} {a : AS} (I : RI m a) {k t : Nat} (ht : t = 0 ∨ AR a t) : RI { m with roots := m.roots.set k t } { a with roots := a.roots.set k t } := by
  have tl : t < a.things.length := by
    rcases ht with h | h
    · subst h; exact (List.getElem?_eq_some_iff.1 I.ai.a0).1
    · exact h.lt I.ai
  have A' : AInv { a with roots := a.roots.set k t } := ⟨by simpa using I.ai.rt, fun r hr => by
    rcases List.mem_or_eq_of_mem_set hr with h | h
    · exact I.ai.rv r h
    · rw [h]; exact tl, I.ai.tv, I.ai.a0, I.ai.sz⟩
  have sub : ∀ u, AR { a with roots := a.roots.set k t } u → u = 0 ∨ AR a u := fun u hu => ar_sub (P := fun u => u = 0 ∨ AR a u) (fun r hr => by
    rcases List.mem_or_eq_of_mem_set hr with h | h
    · exact .inr (.root h)
    · rw [h]; exact ht) (fun u th hu h1 x hx => by
    rcases hu with hu | hu
    · subst hu
      have h1 : a.things[0]? = some th := h1
      rw [I.ai.a0] at h1; cases h1; cases hx
    · exact .inr (.step hu h1 hx)) hu
  refine ⟨A', I.len, by rw [I.ro], I.li, I.ll, I.th, fun j c h0 hc hg hr => ?_, I.z, I.dr, I.dw, ?_, I.ul⟩
  · rcases sub j hr with h | h
    · exact h0 h
    · exact I.gn j c h0 hc hg h
  · obtain ⟨n, h1, h2⟩ := I.us
    obtain ⟨n', h3⟩ := total_ex A'
    refine ⟨n', h3, Nat.le_trans (total_le_of h1 h3 fun u h0 hu => ⟨?_, rfl⟩) h2⟩
    rcases sub u hu with h | h
    · exact absurd h h0
    · exact h
/-- A reference of a thing is set. -/
theorem RI.setRef {m : Ms} {a : AS} (I : RI m a) {t g i x : Nat} {c : TP} {th : List Nat × List Nat} (h0 : t ≠ 0) (hr : AR a t) (hx : x = 0 ∨ AR a x) (hc : m.L[t]? = some c) (hgn : c.gone = false) (ht : a.things[t]? = some th) (hg : c.rg = some g) (hi : i < th.1.length) :
    RI { m with RS := upd m.RS g (th.1.set i x) } { a with things := a.things.set t (th.1.set i x, th.2) } := by
  have tl := (List.getElem?_eq_some_iff.1 ht).1
  have xl : x < a.things.length := by
    rcases hx with h | h
    · subst h; exact (List.getElem?_eq_some_iff.1 I.ai.a0).1
    · exact h.lt I.ai
  have tg : ∀ j, (a.things.set t (th.1.set i x, th.2))[j]? = if j = t then some (th.1.set i x, th.2) else a.things[j]? := by
    intro j
    rw [List.getElem?_set]
    by_cases e : j = t
    · subst e; rw [if_pos rfl, if_pos rfl, if_pos tl]
    · rw [if_neg (Ne.symm e), if_neg e]
  have A' : AInv { a with things := a.things.set t (th.1.set i x, th.2) } := by
    refine ⟨I.ai.rt, fun r hr => by simpa using I.ai.rv r hr, fun j d hj y hy => ?_, ?_, fun j d hj => ?_⟩
    · show y < (a.things.set t _).length
      rw [List.length_set]
      have hj : (a.things.set t (th.1.set i x, th.2))[j]? = some d := hj
      rw [tg] at hj
      split at hj
      · cases hj
        rcases List.mem_or_eq_of_mem_set hy with h | h
        · exact I.ai.tv t th ht y h
        · rw [h]; exact xl
      · exact I.ai.tv j d hj y hy
    · show (a.things.set t _)[0]? = _
      rw [tg, if_neg (Ne.symm h0)]; exact I.ai.a0
    · have hj : (a.things.set t (th.1.set i x, th.2))[j]? = some d := hj
      rw [tg] at hj
      split at hj
      · cases hj
        have := I.ai.sz t th ht
        simpa using this
      · exact I.ai.sz j d hj
  have sub : ∀ u, AR { a with things := a.things.set t (th.1.set i x, th.2) } u → u = 0 ∨ AR a u := fun u hu => ar_sub (a' := { a with things := a.things.set t (th.1.set i x, th.2) }) (P := fun u => u = 0 ∨ AR a u) (fun r hr => .inr (.root hr)) (fun u d hu h1 y hy => by
    have h1 : (a.things.set t (th.1.set i x, th.2))[u]? = some d := h1
    rw [tg] at h1
    split at h1
    · cases h1
      rcases List.mem_or_eq_of_mem_set hy with h | h
      · exact .inr (.step hr ht h)
      · rw [h]; exact hx
    · rcases hu with hu | hu
      · subst hu
        rw [I.ai.a0] at h1; cases h1; cases hy
      · exact .inr (.step hu h1 hy)) hu
  have asz' : ∀ u, aszN { a with things := a.things.set t (th.1.set i x, th.2) } u = aszN a u := by
    intro u
    unfold aszN
    rw [List.getD_eq_getElem?_getD, List.getD_eq_getElem?_getD]
    show asz (((a.things.set t _)[u]?).getD _) = _
    rw [tg]
    split
    · next e => subst e; rw [ht]; simp [asz]
    · rfl
  refine ⟨A', by show _ = (a.things.set t _).length; rw [List.length_set]; exact I.len, I.ro, I.li, I.ll, fun j d dh hj hd hth hdg => ?_, fun j d hj hd hdg hrr => ?_, I.z, I.dr, I.dw, ?_, I.ul⟩
  · have hth2 : (a.things.set t (th.1.set i x, th.2))[j]? = some dh := hth
    clear hth
    rw [tg] at hth2
    split at hth2
    · next e =>
      subst e
      rw [hc] at hd; cases hd
      cases hth2
      obtain ⟨⟨g1, e1, e2, e3⟩, q⟩ := I.th j c th h0 hc ht hgn
      rw [hg] at e1; cases e1
      exact ⟨⟨g, hg, by show upd m.RS g _ g = _; exact upd_eq, by simpa using e3⟩, q⟩
    · next e =>
      obtain ⟨⟨g1, e1, e2, e3⟩, q⟩ := I.th j d dh hj hd hth2 hdg
      refine ⟨⟨g1, e1, ?_, e3⟩, q⟩
      show upd m.RS g _ g1 = _
      rw [upd_ne (fun h => e (by subst h; exact I.dr j t d c g1 hj h0 hd hc hdg hgn e1 hg))]
      exact e2
  · rcases sub j hrr with h | h
    · exact hj h
    · exact I.gn j d hj hd hdg h
  · obtain ⟨n, h1, h2⟩ := I.us
    obtain ⟨n', h3⟩ := total_ex A'
    refine ⟨n', h3, Nat.le_trans (total_le_of h1 h3 fun u h0 hu => ⟨?_, asz' u⟩) h2⟩
    rcases sub u hu with h | h
    · exact absurd h h0
    · exact h
theorem RI.setWord {m : Ms} {a : AS} (I : RI m a) {t g i x : Nat} {c : TP} {th : List Nat × List Nat} (h0 : t ≠ 0) (hc : m.L[t]? = some c) (hgn : c.gone = false) (ht : a.things[t]? = some th) (hg : c.wg = some g) (hi : i < th.2.length) :
    RI { m with WS := upd m.WS g (th.2.set i x) } { a with things := a.things.set t (th.1, th.2.set i x) } := by
  have tl := (List.getElem?_eq_some_iff.1 ht).1
  have tg : ∀ j, (a.things.set t (th.1, th.2.set i x))[j]? = if j = t then some (th.1, th.2.set i x) else a.things[j]? := by
    intro j
    rw [List.getElem?_set]
    by_cases e : j = t
    · subst e; rw [if_pos rfl, if_pos rfl, if_pos tl]
    · rw [if_neg (Ne.symm e), if_neg e]
  have ref : ∀ (j : Nat) d, (a.things.set t (th.1, th.2.set i x))[j]? = some d → ∃ d0, a.things[j]? = some d0 ∧ d.1 = d0.1 ∧ d.2.length = d0.2.length := by
    intro j d hj
    rw [tg] at hj
    split at hj
    · next e => subst e; cases hj; exact ⟨th, ht, rfl, by simp⟩
    · exact ⟨d, hj, rfl, rfl⟩
  have A' : AInv { a with things := a.things.set t (th.1, th.2.set i x) } := by
    refine ⟨I.ai.rt, fun r hr => by simpa using I.ai.rv r hr, fun j d hj y hy => ?_, ?_, fun j d hj => ?_⟩
    · show y < (a.things.set t _).length
      rw [List.length_set]
      obtain ⟨d0, e1, e2, _⟩ := ref j d hj
      rw [e2] at hy
      exact I.ai.tv j d0 e1 y hy
    · show (a.things.set t _)[0]? = _
      rw [tg, if_neg (Ne.symm h0)]; exact I.ai.a0
    · obtain ⟨d0, e1, e2, e3⟩ := ref j d hj
      rw [e2, e3]; exact I.ai.sz j d0 e1
  have sub : ∀ u, AR { a with things := a.things.set t (th.1, th.2.set i x) } u → AR a u := fun u hu => ar_sub (a' := { a with things := a.things.set t (th.1, th.2.set i x) }) (P := fun u => AR a u) (fun r hr => .root hr) (fun u d hu h1 y hy => by
    obtain ⟨d0, e1, e2, _⟩ := ref u d h1
    rw [e2] at hy
    exact .step hu e1 hy) hu
  have asz' : ∀ u, aszN { a with things := a.things.set t (th.1, th.2.set i x) } u = aszN a u := by
    intro u
    unfold aszN
    rw [List.getD_eq_getElem?_getD, List.getD_eq_getElem?_getD]
    show asz (((a.things.set t _)[u]?).getD _) = _
    rw [tg]
    split
    · next e => subst e; rw [ht]; simp [asz]
    · rfl
  refine ⟨A', by show _ = (a.things.set t _).length; rw [List.length_set]; exact I.len, I.ro, I.li, I.ll, fun j d dh hj hd hth hdg => ?_, fun j d hj hd hdg hrr => I.gn j d hj hd hdg (sub j hrr), I.z, I.dr, I.dw, ?_, I.ul⟩
  · have hth2 : (a.things.set t (th.1, th.2.set i x))[j]? = some dh := hth
    clear hth
    rw [tg] at hth2
    split at hth2
    · next e =>
      subst e
      rw [hc] at hd; cases hd
      cases hth2
      obtain ⟨q, ⟨g1, e1, e2, e3⟩⟩ := I.th j c th h0 hc ht hgn
      rw [hg] at e1; cases e1
      exact ⟨q, ⟨g, hg, by show upd m.WS g _ g = _; exact upd_eq, by simpa using e3⟩⟩
    · next e =>
      obtain ⟨q, ⟨g1, e1, e2, e3⟩⟩ := I.th j d dh hj hd hth2 hdg
      refine ⟨q, ⟨g1, e1, ?_, e3⟩⟩
      show upd m.WS g _ g1 = _
      rw [upd_ne (fun h => e (by subst h; exact I.dw j t d c g1 hj h0 hd hc hdg hgn e1 hg))]
      exact e2
  · obtain ⟨n, h1, h2⟩ := I.us
    obtain ⟨n', h3⟩ := total_ex A'
    exact ⟨n', h3, Nat.le_trans (total_le_of h1 h3 fun u _ hu => ⟨sub u hu, asz' u⟩) h2⟩
end Go.Proofs.Ytidkokdkldfglaa

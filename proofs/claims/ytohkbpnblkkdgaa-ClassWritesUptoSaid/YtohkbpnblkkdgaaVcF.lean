/- Every order of a region that draws; the whole code; calls. No condition. -/
import Derived.Test.YtohkbpnblkkdgaaVcE
namespace Go.Vc
set_option linter.unusedSimpArgs false
set_option linter.unusedVariables false

section
variable {P : Program} {L : List Nat} {n : Nat} {ops : Array Oper} {Q : Exit → Act → World → Prop}

theorem act_ext {a b : Go.Act} (hd : a.defers = b.defers) (h : ∀ t : Nat, a.tmps[t]? = b.tmps[t]?) : a = b := by
  obtain ⟨at', ad⟩ := a
  obtain ⟨bt, bd⟩ := b
  simp only at hd h
  subst hd
  have : at' = bt := Array.ext_getElem? h
  rw [this]

theorem Inv.done (D : DrawOk P n ops) {K : Env → Heap → Prop} {w0 : World} (hQ : ∀ a ρ w, Ag L n a [] ρ → Same w0 w → K ρ w.heap → Q .normal a w)
    {listed : Array Bool} {a : Act} {w : World} {V : List Nat} {val : Nat → Value} {a0 av : Act} {τ ρ : Env} {f : Nat} {rest : List (Sop × List Sop)}
    (I : Inv P L n ops listed a w.heap V val a0 av τ ρ) (hst : stripDraw P L n ops (closAll ops) f V = some rest) (hv : vcDraw P K rest τ ρ w.heap) (hs : Same w0 w)
    (hr : Region.ready .any ops listed = []) : Q .normal a w := by
  have hnr : ∀ i, i < ops.size → listed.getD i false = false → (∀ j ∈ depsOf ops i, listed.getD j false = true) → False := by
    intro i h1 h2 h3
    have := (ready_spec I.lsz).2 ⟨h1, h2, h3⟩
    rw [hr] at this; cases this
  have hall : ∀ k ∈ V, listed.getD k false = true := by
    intro k hk
    refine Classical.byContradiction fun hno => ?_
    obtain ⟨i, hi, h1, h2⟩ := I.ord.first (fun k => listed.getD k false = true) ⟨k, hk, hno⟩
    exact hnr i (I.Vr i hi) (by simpa using h1) h2
  have hnone : ∀ i, i < ops.size → readyB ops V i = false := by
    intro i hi
    cases hb : readyB ops V i with
    | false => rfl
    | true =>
      obtain ⟨h1, h2⟩ := readyB_spec.1 hb
      refine (hnr i hi ?_ fun j hj => hall j (h2 j hj)).elim
      cases hx : listed.getD i false with
      | false => rfl
      | true => exact absurd (I.lV i hx) h1
  have hpick : pickD P ops V = none := by
    cases hp : pickD P ops V with
    | none => rfl
    | some i => obtain ⟨h1, h2, _⟩ := pickD_spec hp; rw [hnone i h1] at h2; cases h2
  have hrest : rest = [] := by
    cases f with
    | zero =>
      simp only [stripDraw] at hst
      split at hst
      · cases hst; rfl
      · cases hst
    | succ f =>
      simp only [stripDraw, hpick] at hst
      split at hst
      · cases hst; rfl
      · cases hst
  subst hrest
  have hav : a = av := by
    refine act_ext (I.fa.df.trans I.fv.df.symm) fun t => ?_
    by_cases h : ∃ j, j ∈ V ∧ dstAt ops j = some t
    · obtain ⟨j, h1, h2⟩ := h
      rw [I.fa.yes j t (hall j h1) h2, I.fv.yes j t h1 h2]
    · rw [I.fa.no t (fun j hj hd => h ⟨j, I.lV j hj, hd⟩), I.fv.no t (fun j hj hd => h ⟨j, hj, hd⟩)]
  rw [hav]
  exact hQ av ρ w I.ag.drop hs hv

theorem ca_of (D : DrawOk P n ops) {S : Nat → Prop} {val : Nat → Value} {a0 a : Act} (H : FrameOf ops S val a0 a) (hdc : ∀ i, S i → ∀ j ∈ depsOf ops i, S j) {i : Nat} (hi : ¬ S i) (hd : ∀ j ∈ depsOf ops i, S j) : CA ops val a0 i a :=
  H.ca D (mem_clos hdc hd) fun j t hj hjt hti => by
    rcases (D.d3 j i t hjt hti).2 with h | ⟨h, _⟩
    · exact h
    · exact absurd (mem_clos hdc (hdc j hj) i h) hi

theorem draw_main (D : DrawOk P n ops) {K : Env → Heap → Prop} {w0 : World} (hQ : ∀ a ρ w, Ag L n a [] ρ → Same w0 w → K ρ w.heap → Q .normal a w) :
    ∀ (fuel : Nat) (listed : Array Bool) (a : Act) (w : World) (V : List Nat) (val : Nat → Value) (a0 av : Act) (τ ρ : Env) (f : Nat) (rest : List (Sop × List Sop)),
      Inv P L n ops listed a w.heap V val a0 av τ ρ → cnt listed = fuel → stripDraw P L n ops (closAll ops) f V = some rest → vcDraw P K rest τ ρ w.heap → Same w0 w →
      (∀ i, i < ops.size → readyB ops V i = true → quietAt P ops i = false) → wpAny P .any ops Q fuel listed a w := by
  intro fuel
  induction fuel with
  | zero =>
    intro listed a w V val a0 av τ ρ f rest I hc hst hv hs hsat
    have hr : Region.ready .any ops listed = [] := by
      cases hx : Region.ready .any ops listed with
      | nil => rfl
      | cons i r =>
        have hi : i ∈ Region.ready .any ops listed := by rw [hx]; exact List.mem_cons_self
        obtain ⟨h1, h2, _⟩ := (ready_spec I.lsz).1 hi
        have := cnt_set (listed := listed) (i := i) (by rw [I.lsz]; exact h1) h2
        omega
    exact ⟨hr, I.done D hQ hst hv hs hr⟩
  | succ fuel ih =>
    intro listed a w V val a0 av τ ρ f rest I hc hst hv hs hsat
    refine ⟨fun hr => I.done D hQ hst hv hs hr, fun i hir => ?_⟩
    obtain ⟨hi, hil, hdl⟩ := (ready_spec I.lsz).1 hir
    have hil' : i < listed.size := by rw [I.lsz]; exact hi
    have ho : ops[i]? = some ops[i] := by simp [hi]
    generalize ops[i] = o at ho
    have hselo : noSel o.op = true := I.sel o (Array.mem_of_getElem? ho)
    have hcnt : cnt (listed.setIfInBounds i true) = fuel := by have := cnt_set hil' hil; omega
    have hcaa : CA ops val a0 i a := ca_of D I.fa (fun i h j hj => I.ldc i h j hj) (by simp [hil]) hdl
    by_cases hiV : i ∈ V
    · have hq : quietAt P ops i = true := by
        cases hx : quietAt P ops i with
        | true => rfl
        | false => rw [I.wl i hiV hx] at hil; cases hil
      obtain ⟨b, hb, hy⟩ := I.pend i hiV hil
      have hya : YA P ops i (val i) a w.heap := hy.congr (fun o' ho' => by rw [ho] at ho'; cases ho'; exact hselo) (hb.same D hcaa)
      have next : wpAny P .any ops Q fuel (listed.setIfInBounds i true) (a.put o.dst (val i)) w := by
        have := I.list D hiV hil hdl
        rw [dstAt_of ho] at this
        exact ih _ _ w V val a0 av τ ρ f rest this hcnt hst hv hs hsat
      unfold wpOp
      simp only [ho]
      rcases hya o ho with ⟨hw, hrd⟩ | ⟨hw, hu⟩
      · rw [if_pos hw]
        refine .inl ?_
        unfold Oper.wp
        rw [rd_run _ w _ hrd]
        exact next
      · rw [if_neg (by rw [hw]; simp)]
        rw [hu] at next
        exact next
    · have hrb : readyB ops V i = true := readyB_spec.2 ⟨hiV, fun j hj => I.lV j (hdl j hj)⟩
      cases f with
      | zero =>
        simp only [stripDraw] at hst
        split at hst
        · rename_i hall
          rw [List.all_eq_true] at hall
          have := hall i (List.mem_range.2 hi)
          exact absurd (by simpa using this) hiV
        · cases hst
      | succ f =>
        cases hp : pickD P ops V with
        | none => rw [pickD_none hp hi] at hrb; cases hrb
        | some p =>
          obtain ⟨hpi, hpr, _⟩ := pickD_spec hp
          have hpq := hsat p hpi hpr
          simp only [stripDraw, hp, hpq, Bool.false_eq_true, if_false] at hst
          split at hst
          · rename_i hsole
            rw [List.all_eq_true] at hsole
            have hip : i = p := by
              have := hsole i (List.mem_range.2 hi)
              simp only [Bool.or_eq_true, beq_iff_eq, hrb, Bool.not_true, Bool.false_eq_true, or_false] at this
              exact this
            subst hip
            split at hst
            · rename_i s re r h1 h2 h3
              cases hst
              obtain ⟨o', ho', hso⟩ := stripAt_spec h1
              rw [ho] at ho'; cases ho'
              obtain ⟨e1, e2, e3, e4, hd, hg⟩ := stripOp_spec hso
              have hcav : CA ops val a0 i av := ca_of D I.fv (fun i h j hj => I.ord.down i h j hj) hiV (fun j hj => I.lV j (hdl j hj))
              have hlk : ∀ t ∈ looks ops i, a.tmps[t]? = av.tmps[t]? := hcaa.same D hcav
              have hclV : ∀ j ∈ clos ops i, j ∈ V := mem_clos (p := (· ∈ V)) (fun x hx y hy => I.ord.down x hx y hy) (fun j hj => I.lV j (hdl j hj))
              have hcll : ∀ j ∈ clos ops i, listed.getD j false = true := mem_clos (p := fun j => listed.getD j false = true) (fun x hx y hy => I.ldc x hx y hy) hdl
              have hne : ∀ j ∈ V, j ≠ i := fun j hj e => hiV (e ▸ hj)
              simp only [vcDraw] at hv
              have hN : ∀ v w', Same w0 w' → (stills P re (putT s.dst v τ) (putR s.dst v ρ) w'.heap ∧ vcDraw P K r (putT s.dst v τ) (putR s.dst v ρ) w'.heap) →
                  wpAny P .any ops Q fuel (listed.setIfInBounds i true) (a.put o.dst v) w' := by
                intro v w' hs' hkk
                have fv' : FrameOf ops (fun j => j ∈ V ++ [i]) (upd val i v) a0 (av.put o.dst v) := by
                  rw [← dstAt_of ho]
                  exact I.fv.put D I.nz hiV (fun j => by simp) v (by simp [upd]) fun j hj => by simp [upd, hne j hj]
                have ag' : Ag L n (av.put o.dst v) (putT s.dst v τ) (putR s.dst v ρ) := I.ag.putS hd v
                have I' : Inv P L n ops (listed.setIfInBounds i true) (a.put o.dst v) w'.heap (V ++ [i]) (upd val i v) a0 (av.put o.dst v) (putT s.dst v τ) (putR s.dst v ρ) := by
                  refine ⟨by simp [I.lsz], I.nz, I.sel, ?_, ?_, ?_, ?_, .snoc V i I.ord (fun j hj => I.lV j (hdl j hj)), ?_, fv', ag', ?_⟩
                  · intro j hj
                    rcases (getD_set_iff hil').1 hj with h | h
                    · exact List.mem_append_left _ (I.lV j h)
                    · subst h; simp
                  · intro j hj
                    rcases List.mem_append.1 hj with h | h
                    · exact I.Vr j h
                    · simp at h; subst h; exact hi
                  · intro j hj hqj
                    rcases List.mem_append.1 hj with h | h
                    · exact (getD_set_iff hil').2 (.inl (I.wl j h hqj))
                    · simp at h; subst h; exact (getD_set_iff hil').2 (.inr rfl)
                  · intro j hj k hk
                    refine (getD_set_iff hil').2 (.inl ?_)
                    rcases (getD_set_iff hil').1 hj with h | h
                    · exact I.ldc j h k hk
                    · exact hdl k (h ▸ hk)
                  · rw [← dstAt_of ho]
                    refine I.fa.put D I.nz (by simp [hil]) (fun j => getD_set_iff hil') v (by simp [upd]) ?_
                    intro j hj
                    simp [upd, hne j (I.lV j hj)]
                  · intro k hk hkl
                    have hki : k ≠ i := fun e => by subst e; rw [(getD_set_iff hil').2 (.inr rfl)] at hkl; cases hkl
                    have hkV : k ∈ V := by
                      rcases List.mem_append.1 hk with h | h
                      · exact h
                      · simp at h; exact absurd h hki
                    have hkl0 : listed.getD k false = false := by
                      cases hx : listed.getD k false with
                      | false => rfl
                      | true => rw [(getD_set_iff hil').2 (.inl hx)] at hkl; cases hkl
                    have hkq : quietAt P ops k = true := by
                      cases hx : quietAt P ops k with
                      | true => rfl
                      | false => rw [I.wl k hkV hx] at hkl0; cases hkl0
                    have hkc : k ∉ clos ops i := fun h => by rw [hcll k h] at hkl0; cases hkl0
                    obtain ⟨b, hb, hy⟩ := I.pend k hkV hkl0
                    have hkcV : ∀ j ∈ clos ops k, j ∈ V := mem_clos (p := (· ∈ V)) (fun x hx y hy => I.ord.down x hx y hy) (I.ord.down k hkV)
                    have hb' : CA ops (upd val i v) a0 k b := hb.val D fun j hj => by simp [upd, hne j (hkcV j hj)]
                    refine ⟨b, hb', ?_⟩
                    simp only [upd, hki, if_false]
                    cases hfr : freeAt ops k with
                    | true => exact hy.free hfr
                    | false =>
                      have hmem : k ∈ reOf P ops (closAll ops) V i := by
                        unfold reOf
                        rw [List.mem_filter]
                        refine ⟨hkV, ?_⟩
                        rw [closAll_getD hi]
                        simp [hkq, hfr, hkc]
                      obtain ⟨sk, hsk, hske⟩ := stripsAt_mem h2 k hmem
                      obtain ⟨ok, hok, hsok⟩ := stripAt_spec hske
                      have hstill := stills_mem hkk.1 sk hsk
                      have hca' : CA ops (upd val i v) a0 k (av.put o.dst v) := fv'.ca D (fun j hj => List.mem_append_left _ (hkcV j hj)) fun j t hj hjt htk => by
                        rcases (D.d3 j k t hjt htk).2 with h | ⟨h, hall⟩
                        · exact h
                        · rcases hall i hi with h4 | h4 | h4
                          · rw [hpq] at h4; cases h4
                          · subst h4; exact absurd h hkc
                          · rcases List.mem_append.1 hj with h5 | h5
                            · exact absurd (mem_clos (p := (· ∈ V)) (fun x hx y hy => I.ord.down x hx y hy) (I.ord.down j h5) i h4) hiV
                            · simp at h5; subst h5; exact absurd h hkc
                      refine YA.again hok hsok ag' ?_ (hb'.same D hca') hstill hy
                      intro t ht
                      have := fv'.yes k t (List.mem_append_left _ hkV) (by rw [dstAt_of hok]; exact ht)
                      simpa [upd, hki] using this
                obtain ⟨f', V', val', av', τ', ρ', rest', J1, J2, J3, J4⟩ := saturate D f (V ++ [i]) (upd val i v) _ _ _ r I' h3 hkk.2
                exact ih _ _ w' V' val' a0 av' τ' ρ' f' rest' J1 hcnt J2 J3 hs' J4
              have hev : ∀ x ∈ o.op.operands, (evo τ ρ x).isSome = true → a.eval x = evd τ ρ x := by
                intro x hx hk
                rw [← I.ag.evd hk]
                refine eval_congr fun t ht => hlk t ?_
                subst ht
                simp only [looks, ho, Oper.looksAt]
                exact List.mem_append_left _ (List.mem_filterMap.2 ⟨.tmp t, by simpa using hx, rfl⟩)
              unfold wpOp
              simp only [ho]
              unfold vcOne at hv
              rcases hg with ⟨g1, g2⟩ | ⟨j, want, g, g1, g2, g3⟩
              · rw [g2] at hv
                rw [if_pos (by simp [Region.wanted, g1])]
                exact .inl (run_sound hev e1 e2 e3 hs hN hv)
              · rw [g3] at hv
                have hwc := wanted_congr ho hlk
                cases hl : lk τ ρ g with
                | none => simp only [hl] at hv
                | some x =>
                  simp only [hl] at hv
                  have hw := wanted_eq I.ag g1 g2 hl
                  rw [hwc]
                  by_cases hb : asB x = some want
                  · rw [if_pos hb] at hv
                    rw [if_pos (hw.2 hb)]
                    exact .inl (run_sound hev e1 e2 e3 hs hN hv)
                  · rw [if_neg hb] at hv
                    rw [if_neg (fun h => hb (hw.1 h))]
                    exact hN undef w hs hv
            · cases hst
          · cases hst

theorem draw_sound {id : Nat} {ops : Array Oper} {sl : List (Sop × List Sop)} {w0 w : World} {a : Act} {ρ : Env} {K : Env → Heap → Prop} (hm : P.follows .mixedOrders = true)
    (hQ : ∀ a ρ w, Ag L n a [] ρ → Same w0 w → K ρ w.heap → Q .normal a w) (hok : drawOk P n ops (closAll ops) = true) (hsel : ops.all (fun o => noSel o.op) = true)
    (h : stripDraw P L n ops (closAll ops) ops.size [] = some sl)
    (H : Ag L n a [] ρ) (hs : Same w0 w) (hv : vcDraw P K sl [] ρ w.heap) : (Code.region id ops true).wp P Q a w := by
  refine wp_region_any hm ?_
  have D := drawOk_spec hok
  have hrep : ∀ i, (Array.replicate ops.size false).getD i false = false := by
    intro i
    rcases Nat.lt_or_ge i ops.size with h | h <;> simp [h]
  have I : Inv P L n ops (Array.replicate ops.size false) a w.heap [] (fun _ => undef) a a [] ρ := by
    refine ⟨by simp, H.sz, ?_, ?_, ?_, ?_, ?_, .nil, ?_, ?_, H, ?_⟩
    · intro o ho
      rw [Array.all_eq_true'] at hsel
      exact hsel o ho
    · intro i hi; rw [hrep i] at hi; cases hi
    · intro i hi; cases hi
    · intro i hi; cases hi
    · intro i hi; rw [hrep i] at hi; cases hi
    · exact ⟨rfl, rfl, fun j t hj => (by rw [hrep j] at hj; cases hj), fun _ _ => rfl⟩
    · exact ⟨rfl, rfl, fun j t hj => (by cases hj), fun _ _ => rfl⟩
    · intro k hk; cases hk
  obtain ⟨f', V', val', av', τ', ρ', rest', J1, J2, J3, J4⟩ := saturate D ops.size [] _ _ _ _ sl I h hv
  refine draw_main D hQ ops.size _ a { w with drawn := w.drawn + 1 } V' val' a av' τ' ρ' f' rest' J1 ?_ J2 J3 ⟨hs.os, hs.tape, hs.output⟩ J4
  simp [cnt]
end
end Go.Vc

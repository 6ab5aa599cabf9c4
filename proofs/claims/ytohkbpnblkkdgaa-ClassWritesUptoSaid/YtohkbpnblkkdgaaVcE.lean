/- Regions that draw: the canonical order serves every order; the whole code; calls. No condition. -/
import Derived.Test.YtohkbpnblkkdgaaVcD
namespace Go.Vc
set_option linter.unusedSimpArgs false
set_option linter.unusedVariables false

section
variable {P : Program} {L : List Nat} {n : Nat} {ops : Array Oper} {Q : Exit → Act → World → Prop}

structure Inv (P : Program) (L : List Nat) (n : Nat) (ops : Array Oper) (listed : Array Bool) (a : Act) (h : Heap) (V : List Nat) (val : Nat → Value) (a0 av : Act) (τ ρ : Env) : Prop where
  lsz : listed.size = ops.size
  nz : a0.tmps.size = n
  sel : ∀ o ∈ ops, noSel o.op = true
  lV : ∀ i, listed.getD i false = true → i ∈ V
  Vr : ∀ i ∈ V, i < ops.size
  wl : ∀ i ∈ V, quietAt P ops i = false → listed.getD i false = true
  ldc : ∀ i, listed.getD i false = true → ∀ j ∈ depsOf ops i, listed.getD j false = true
  ord : OrdV ops V
  fa : FrameOf ops (fun i => listed.getD i false = true) val a0 a
  fv : FrameOf ops (fun i => i ∈ V) val a0 av
  ag : Ag L n av τ ρ
  pend : ∀ k ∈ V, listed.getD k false = false → ∃ b, CA ops val a0 k b ∧ YA P ops k (val k) b h

theorem stripAt_spec {i : Nat} {s : Sop} (h : stripAt P L n ops i = some s) : ∃ o, ops[i]? = some o ∧ stripOp P L n ops.toList o = some s := by
  unfold stripAt at h
  cases ho : ops[i]? with
  | none => rw [ho] at h; cases h
  | some o => rw [ho] at h; exact ⟨o, rfl, h⟩

theorem lk_evd {a : Act} {τ ρ : Env} (H : Ag L n a τ ρ) (x : Operand) (hx : (evo τ ρ x).isSome = true) : a.eval x = evd τ ρ x := H.evd hx

/-- One quiet operation, out of its transformer. -/
theorem quiet_one {i : Nat} {o : Oper} {s : Sop} {av : Act} {τ ρ : Env} {h : Heap} {N : Env → Env → Heap → Prop} (ho : ops[i]? = some o) (hs : stripOp P L n ops.toList o = some s) (hq : quietAt P ops i = true)
    (H : Ag L n av τ ρ) (hv : vcOne P s τ ρ h N) : ∃ v, YA P ops i v av h ∧ N (putT s.dst v τ) (putR s.dst v ρ) h := by
  obtain ⟨e1, e2, e3, e4, hd, hg⟩ := stripOp_spec hs
  have hqo : s.q = true := by simp only [quietAt, ho] at hq; rw [e4]; exact hq
  have run : vcRun P s τ ρ h N → ∃ v, rd P (execOp av.eval o) h = some (.value v) ∧ N (putT s.dst v τ) (putR s.dst v ρ) h := by
    intro hv
    unfold vcRun at hv
    rw [if_pos hqo] at hv
    cases hr : rdOp P s τ ρ h with
    | none => rw [hr] at hv; exact hv.elim
    | some v =>
      rw [hr] at hv
      refine ⟨v, ?_, hv⟩
      unfold rdOp at hr
      split at hr
      · rename_i hk
        have he : execOp av.eval o = execOp (evd τ ρ) s.oper := by
          rw [← execOp_oper _ o s e1 e2]
          refine execOp_congr o ?_ ?_
          · intro cs b e; rw [e] at e3; simp [noSel] at e3
          · intro x hx; exact H.evd (hk x (by rw [e1]; exact hx))
        rw [he]
        cases hx : rd P (execOp (evd τ ρ) s.oper) h with
        | none => rw [hx] at hr; cases hr
        | some nx =>
          rw [hx] at hr
          cases nx <;> simp only [valOf] at hr <;> first | cases hr | skip
          rfl
      · cases hr
  unfold vcOne at hv
  rcases hg with ⟨g1, g2⟩ | ⟨j, want, g, g1, g2, g3⟩
  · rw [g2] at hv
    obtain ⟨v, h1, h2⟩ := run hv
    refine ⟨v, fun o' ho' => ?_, h2⟩
    rw [ho] at ho'; cases ho'
    exact .inl ⟨by simp [Region.wanted, g1], h1⟩
  · rw [g3] at hv
    cases hl : lk τ ρ g with
    | none => simp only [hl] at hv
    | some x =>
      simp only [hl] at hv
      have hw := wanted_eq H g1 g2 hl
      by_cases hb : asB x = some want
      · rw [if_pos hb] at hv
        obtain ⟨v, h1, h2⟩ := run hv
        refine ⟨v, fun o' ho' => ?_, h2⟩
        rw [ho] at ho'; cases ho'
        exact .inl ⟨hw.2 hb, h1⟩
      · rw [if_neg hb] at hv
        refine ⟨undef, fun o' ho' => ?_, hv⟩
        rw [ho] at ho'; cases ho'
        refine .inr ⟨?_, rfl⟩
        cases hx : Region.wanted o (yielded ops av.tmps) with
        | false => rfl
        | true => exact absurd (hw.1 hx) hb

theorem dstAt_of {i : Nat} {o : Oper} (ho : ops[i]? = some o) : dstAt ops i = o.dst := by simp [dstAt, ho]

theorem Inv.grow (D : DrawOk P n ops) {listed : Array Bool} {a : Act} {h : Heap} {V : List Nat} {val : Nat → Value} {a0 av : Act} {τ ρ : Env} (I : Inv P L n ops listed a h V val a0 av τ ρ)
    {i : Nat} {o : Oper} {s : Sop} {v : Value} (ho : ops[i]? = some o) (hs : stripOp P L n ops.toList o = some s) (hr : readyB ops V i = true) (hq : quietAt P ops i = true) (hy : YA P ops i v av h) :
    Inv P L n ops listed a h (V ++ [i]) (upd val i v) a0 (av.put o.dst v) (putT s.dst v τ) (putR s.dst v ρ) := by
  obtain ⟨hi, hdeps⟩ := readyB_spec.1 hr
  obtain ⟨e1, e2, e3, e4, hd, hg⟩ := stripOp_spec hs
  have hil : listed.getD i false = false := by
    cases hx : listed.getD i false with
    | false => rfl
    | true => exact absurd (I.lV i hx) hi
  have hclV : ∀ j ∈ clos ops i, j ∈ V := mem_clos (p := (· ∈ V)) (fun x hx y hy => I.ord.down x hx y hy) hdeps
  have hne : ∀ j ∈ V, j ≠ i := fun j hj e => hi (e ▸ hj)
  refine ⟨I.lsz, I.nz, I.sel, fun j hj => List.mem_append_left _ (I.lV j hj), ?_, ?_, I.ldc, .snoc V i I.ord hdeps, ?_, ?_, I.ag.putS hd v, ?_⟩
  · intro j hj
    rcases List.mem_append.1 hj with hj | hj
    · exact I.Vr j hj
    · simp at hj; subst hj
      rcases Nat.lt_or_ge j ops.size with h' | h'
      · exact h'
      · simp [Array.getElem?_eq_none h'] at ho
  · intro j hj hqj
    rcases List.mem_append.1 hj with hj | hj
    · exact I.wl j hj hqj
    · simp at hj; subst hj; rw [hq] at hqj; cases hqj
  · refine ⟨I.fa.df, I.fa.sz, ?_, I.fa.no⟩
    intro j t hj ht
    have : j ≠ i := hne j (I.lV j hj)
    simp only [upd, this, if_false]
    exact I.fa.yes j t hj ht
  · rw [← dstAt_of ho]
    refine I.fv.put D I.nz hi (fun j => by simp) v (by simp [upd]) fun j hj => by simp [upd, hne j hj]
  · intro k hk hkl
    rcases List.mem_append.1 hk with hk | hk
    · obtain ⟨b, h1, h2⟩ := I.pend k hk hkl
      have hkc : ∀ j ∈ clos ops k, j ∈ V := mem_clos (p := (· ∈ V)) (fun x hx y hy => I.ord.down x hx y hy) (I.ord.down k hk)
      refine ⟨b, h1.val D fun j hj => by simp [upd, hne j (hkc j hj)], ?_⟩
      simp only [upd, hne k hk, if_false]; exact h2
    · simp at hk; subst hk
      refine ⟨av, ?_, ?_⟩
      · have hca : CA ops val a0 k av := I.fv.ca D hclV fun j t hj hjt htk => by
          rcases (D.d3 j k t hjt htk).2 with h1 | ⟨h1, _⟩
          · exact h1
          · exact absurd (mem_clos (p := (· ∈ V)) (fun x hx y hy => I.ord.down x hx y hy) (I.ord.down j hj) k h1) hi
        exact hca.val D fun j hj => by simp [upd, hne j (hclV j hj)]
      · simp only [upd, if_true]; exact hy

theorem pickD_spec {V : List Nat} {i : Nat} (h : pickD P ops V = some i) : i < ops.size ∧ readyB ops V i = true ∧
    (quietAt P ops i = false → ∀ j, j < ops.size → readyB ops V j = true → quietAt P ops j = false) := by
  unfold pickD at h
  split at h
  · rename_i k hk
    cases h
    have h1 := List.find?_some hk
    have h2 := List.mem_of_find?_eq_some hk
    simp only [Bool.and_eq_true] at h1
    exact ⟨List.mem_range.1 h2, h1.1, fun h => by rw [h1.2] at h; cases h⟩
  · rename_i hk
    have h1 := List.find?_some h
    have h2 := List.mem_of_find?_eq_some h
    refine ⟨List.mem_range.1 h2, h1, fun _ j hj hr => ?_⟩
    have := List.find?_eq_none.1 hk j (List.mem_range.2 hj)
    simp only [Bool.and_eq_true, not_and] at this
    simpa using this hr
theorem pickD_none {V : List Nat} (h : pickD P ops V = none) {j : Nat} (hj : j < ops.size) : readyB ops V j = false := by
  unfold pickD at h
  split at h
  · cases h
  · have := List.find?_eq_none.1 h j (List.mem_range.2 hj)
    simpa using this

/-- All quiet operations that may come up now are taken. -/
theorem saturate (D : DrawOk P n ops) {K : Env → Heap → Prop} {listed : Array Bool} {a a0 : Act} {h : Heap} : ∀ (f : Nat) (V : List Nat) (val : Nat → Value) (av : Act) (τ ρ : Env) (rest : List (Sop × List Sop)),
    Inv P L n ops listed a h V val a0 av τ ρ → stripDraw P L n ops (closAll ops) f V = some rest → vcDraw P K rest τ ρ h →
    ∃ f' V' val' av' τ' ρ' rest', Inv P L n ops listed a h V' val' a0 av' τ' ρ' ∧ stripDraw P L n ops (closAll ops) f' V' = some rest' ∧ vcDraw P K rest' τ' ρ' h ∧
      (∀ i, i < ops.size → readyB ops V' i = true → quietAt P ops i = false) := by
  intro f
  induction f with
  | zero =>
    intro V val av τ ρ rest I hs hv
    refine ⟨0, V, val, av, τ, ρ, rest, I, hs, hv, ?_⟩
    intro i hi hr
    simp only [stripDraw] at hs
    split at hs
    · rename_i hall
      rw [List.all_eq_true] at hall
      have := hall i (List.mem_range.2 hi)
      exact absurd (by simpa using this) (readyB_spec.1 hr).1
    · cases hs
  | succ f ih =>
    intro V val av τ ρ rest I hs hv
    cases hp : pickD P ops V with
    | none => exact ⟨f + 1, V, val, av, τ, ρ, rest, I, hs, hv, fun i hi hr => by rw [pickD_none hp hi] at hr; cases hr⟩
    | some i =>
      obtain ⟨hi, hr, hw⟩ := pickD_spec hp
      cases hq : quietAt P ops i with
      | false => exact ⟨f + 1, V, val, av, τ, ρ, rest, I, hs, hv, hw hq⟩
      | true =>
        simp only [stripDraw, hp, hq, if_true] at hs
        split at hs
        · rename_i s r h1 h2
          cases hs
          obtain ⟨o, ho, hso⟩ := stripAt_spec h1
          simp only [vcDraw] at hv
          obtain ⟨v, hy, _, hN⟩ := quiet_one ho hso hq I.ag hv
          exact ih (V ++ [i]) (upd val i v) (av.put o.dst v) _ _ r (I.grow D ho hso hr hq hy) h2 hN
        · cases hs

theorem getD_set_self {listed : Array Bool} {i : Nat} (hi : i < listed.size) : (listed.setIfInBounds i true).getD i false = true := by
  simp [hi]
theorem getD_set_iff {listed : Array Bool} {i j : Nat} (hi : i < listed.size) : (listed.setIfInBounds i true).getD j false = true ↔ (listed.getD j false = true ∨ j = i) := by
  by_cases h : j = i
  · subst h; simp [hi]
  · rw [getD_set_ne false (Ne.symm h)]; simp [h]

def cnt (listed : Array Bool) : Nat := listed.toList.count false
theorem cnt_set {listed : Array Bool} {i : Nat} (hi : i < listed.size) (hf : listed.getD i false = false) : cnt (listed.setIfInBounds i true) + 1 = cnt listed := by
  unfold cnt
  have h1 : i < listed.toList.length := by simpa using hi
  have h2 : listed.toList[i] = false := by
    have : listed.getD i false = listed[i] := by simp [hi]
    rw [this] at hf; simpa using hf
  have hpos : 0 < listed.toList.count false := List.count_pos_iff.2 (h2 ▸ List.getElem_mem h1)
  rw [Array.toList_setIfInBounds, List.count_set h1, h2]
  rw [if_pos (by decide), if_neg (by decide)]
  omega

theorem Inv.list (D : DrawOk P n ops) {listed : Array Bool} {a : Act} {h : Heap} {V : List Nat} {val : Nat → Value} {a0 av : Act} {τ ρ : Env} (I : Inv P L n ops listed a h V val a0 av τ ρ)
    {i : Nat} (hiV : i ∈ V) (hil : listed.getD i false = false) (hdl : ∀ j ∈ depsOf ops i, listed.getD j false = true) :
    Inv P L n ops (listed.setIfInBounds i true) (a.put (dstAt ops i) (val i)) h V val a0 av τ ρ := by
  have hi : i < listed.size := by rw [I.lsz]; exact I.Vr i hiV
  refine ⟨by simp [I.lsz], I.nz, I.sel, ?_, I.Vr, ?_, ?_, I.ord, ?_, I.fv, I.ag, ?_⟩
  · intro j hj
    rcases (getD_set_iff hi).1 hj with h | h
    · exact I.lV j h
    · exact h ▸ hiV
  · intro j hj hq
    exact (getD_set_iff hi).2 (.inl (I.wl j hj hq))
  · intro j hj k hk
    refine (getD_set_iff hi).2 (.inl ?_)
    rcases (getD_set_iff hi).1 hj with h | h
    · exact I.ldc j h k hk
    · exact hdl k (h ▸ hk)
  · exact I.fa.put D I.nz (by simp [hil]) (fun j => getD_set_iff hi) (val i) rfl fun _ _ => rfl
  · intro k hk hkl
    refine I.pend k hk ?_
    cases hx : listed.getD k false with
    | false => rfl
    | true => rw [(getD_set_iff hi).2 (.inl hx)] at hkl; cases hkl

theorem stripsAt_mem : ∀ {l : List Nat} {r : List Sop}, stripsAt P L n ops l = some r → ∀ i ∈ l, ∃ s ∈ r, stripAt P L n ops i = some s := by
  intro l
  induction l with
  | nil => intro r _ i hi; cases hi
  | cons j l ih =>
    intro r h i hi
    simp only [stripsAt] at h
    split at h
    · rename_i s t h1 h2
      cases h
      rcases List.mem_cons.1 hi with hi | hi
      · exact ⟨s, List.mem_cons_self, hi ▸ h1⟩
      · obtain ⟨x, hx, hy⟩ := ih h2 i hi
        exact ⟨x, List.mem_cons_of_mem _ hx, hy⟩
    · cases h
theorem stills_mem : ∀ {l : List Sop} {τ ρ : Env} {h : Heap}, stills P l τ ρ h → ∀ x ∈ l, still P x τ ρ h := by
  intro l
  induction l with
  | nil => intro τ ρ h _ x hx; cases hx
  | cons y l ih =>
    intro τ ρ h H x hx
    rcases List.mem_cons.1 hx with hx | hx
    · exact hx ▸ H.1
    · exact ih H.2 x hx

/-- A pending operation that was looked at again. -/
theorem YA.again {k : Nat} {v : Value} {b av : Act} {τ ρ : Env} {h h' : Heap} {s : Sop} {o : Oper} (ho : ops[k]? = some o) (hs : stripOp P L n ops.toList o = some s)
    (H : Ag L n av τ ρ) (hval : ∀ t, o.dst = some t → av.tmps[t]? = some v) (hl : ∀ t ∈ looks ops k, b.tmps[t]? = av.tmps[t]?) (hst : still P s τ ρ h') (hy : YA P ops k v b h) : YA P ops k v b h' := by
  obtain ⟨e1, e2, e3, e4, hd, hg⟩ := stripOp_spec hs
  rcases hd with ⟨_, hd⟩ | ⟨t, hd, htn, hds⟩
  · unfold still at hst; rw [hd] at hst; exact hst.elim
  · intro o' ho'
    rw [ho] at ho'; cases ho'
    rcases hy o ho with ⟨hw, hr⟩ | hw
    · refine .inl ⟨hw, ?_⟩
      have hwav : Region.wanted o (yielded ops av.tmps) = true := by rw [← wanted_congr ho hl]; exact hw
      have core : rdOp P s τ ρ h' = lk τ ρ t ∧ (lk τ ρ t).isSome = true := by
        unfold still at hst
        rw [hds] at hst
        simp only [] at hst
        rcases hg with ⟨g1, g2⟩ | ⟨j, want, g, g1, g2, g3⟩
        · rw [g2] at hst; exact hst
        · rw [g3] at hst
          simp only [] at hst
          cases hl' : lk τ ρ g with
          | none => rw [hl'] at hst; exact hst.elim
          | some x => rw [hl'] at hst; exact hst ((wanted_eq H g1 g2 hl').1 hwav)
      obtain ⟨u, hu⟩ := Option.isSome_iff_exists.1 core.2
      have huv : u = v := by
        have h1 := H.lk hu
        rw [hval t hd] at h1
        exact (Option.some.inj h1).symm
      subst huv
      have c1 := core.1
      rw [hu] at c1
      unfold rdOp at c1
      split at c1
      · rename_i hk
        have he : execOp b.eval o = execOp (evd τ ρ) s.oper := by
          rw [exec_congr ho e3 hl, ← execOp_oper _ o s e1 e2]
          refine execOp_congr o ?_ ?_
          · intro cs b e; rw [e] at e3; simp [noSel] at e3
          · intro x hx; exact H.evd (hk x (by rw [e1]; exact hx))
        rw [he]
        cases hx : rd P (execOp (evd τ ρ) s.oper) h' with
        | none => rw [hx] at c1; cases c1
        | some nx =>
          rw [hx] at c1
          cases nx <;> simp only [valOf] at c1 <;> first | (cases c1; done) | skip
          rw [Option.some.inj c1]
      · cases c1
    · exact .inr hw
end
end Go.Vc

/- The reference's space, plainly and in memory. No condition. -/
import Derived.Test.YtidkokdkldfglaaUY
import Derived.Test.YtidkokdkldfglaaCm
namespace Go.Proofs.Ytidkokdkldfglaa
open Go.Vc
set_option maxRecDepth 100000
set_option linter.unusedSimpArgs false
set_option linter.unusedVariables false

/-- A thing of the reference: the blocks of its references and words, how many; gone. -/
structure TP where
  rg : Option Nat
  rn : Nat
  wg : Option Nat
  wn : Nat
  gone : Bool
def TP.row (c : TP) : List Value := [sv c.rg c.rn, sv c.wg c.wn, .bool c.gone]
def nul3 : TP := ⟨none, 0, none, 0, false⟩
def gone3 : TP := ⟨none, 0, none, 0, true⟩
def rows3 : List TP → List Value
  | [] => []
  | c :: r => c.row ++ rows3 r
def intV (r : Nat) : Value := .int .i64 (r : Int)
theorem row3_len (c : TP) : c.row.length = 3 := rfl
theorem rows3_len (l : List TP) : (rows3 l).length = l.length * 3 := by
  induction l with
  | nil => rfl
  | cons c r ih => simp only [rows3, List.length_append, row3_len, ih, List.length_cons]; omega
theorem rows3_app (a b : List TP) : rows3 (a ++ b) = rows3 a ++ rows3 b := by
  induction a with
  | nil => rfl
  | cons c r ih => simp only [List.cons_append, rows3, ih, List.append_assoc]
theorem rows3_get : ∀ {l : List TP} {i j : Nat} {c : TP}, l[i]? = some c → j < 3 → (rows3 l)[i * 3 + j]? = c.row[j]?
  | [], i, j, c, h, _ => by simp at h
  | d :: r, 0, j, c, h, hj => by
    simp only [List.getElem?_cons_zero, Option.some.injEq] at h
    subst h
    rw [rows3, Nat.zero_mul, Nat.zero_add, List.getElem?_append_left (by rw [row3_len]; exact hj)]
  | d :: r, i + 1, j, c, h, hj => by
    rw [List.getElem?_cons_succ] at h
    rw [rows3, List.getElem?_append_right (by rw [row3_len]; omega), row3_len, show (i + 1) * 3 + j - 3 = i * 3 + j by omega]
    exact rows3_get h hj
theorem rows3_put : ∀ {l : List TP} {i : Nat} {c c' : TP}, l[i]? = some c → rows3 (l.set i c') = (rows3 l).take (i * 3) ++ c'.row ++ (rows3 l).drop (i * 3 + 3)
  | [], i, c, c', h => by simp at h
  | d :: r, 0, c, c', h => by
    rw [List.set_cons_zero, rows3, rows3, Nat.zero_mul, List.take_zero, List.nil_append, Nat.zero_add, List.drop_append, row3_len, List.drop_of_length_le (by rw [row3_len]; omega), List.nil_append, Nat.sub_self, List.drop_zero]
  | d :: r, i + 1, c, c', h => by
    rw [List.getElem?_cons_succ] at h
    have e1 : (d.row ++ rows3 r).take ((i + 1) * 3) = d.row ++ (rows3 r).take (i * 3) := by
      rw [List.take_append, row3_len, show (i + 1) * 3 - 3 = i * 3 by omega]
      congr 1
      exact List.take_of_length_le (by rw [row3_len]; omega)
    have e2 : (d.row ++ rows3 r).drop ((i + 1) * 3 + 3) = (rows3 r).drop (i * 3 + 3) := by
      rw [List.drop_append, row3_len, show (i + 1) * 3 + 3 - 3 = i * 3 + 3 by omega, List.drop_of_length_le (l := d.row) (by rw [row3_len]; omega), List.nil_append]
    rw [List.set_cons_succ, rows3, rows3, rows3_put (c' := c') h, e1, e2]
    simp only [List.append_assoc]
theorem one_row3 (c : TP) : ∀ u ∈ c.row, oneCell u = true := by
  intro u hu
  simp only [TP.row, List.mem_cons, List.not_mem_nil, or_false] at hu
  rcases hu with rfl | rfl | rfl <;> rfl
structure Ms where
  L : List TP
  roots : List Nat
  limit : Nat
  used : Nat
  RS : Nat → Option (List Nat)
  WS : Nat → Option (List Nat)
structure Pm where
  M : Nat
  Lb : Nat
  lc : Nat
  Rb : Nat
structure RepM (base : Nat) (h : Heap) (p : Pm) (s : Ms) : Prop where
  mp : h[p.M]? = some (.cells #[.slice (some ⟨p.Lb, 0, none⟩) s.L.length p.lc, .slice (some ⟨p.Rb, 0, none⟩) 16 16, .int .i64 (s.limit : Int), .int .i64 (s.used : Int)] 61 (0, 0))
  lo : Own h base 65 3 (.slice (some ⟨p.Lb, 0, none⟩) s.L.length p.lc) s.L.length (rows3 s.L)
  rp : h[p.Rb]? = some (.cells (s.roots.map intV).toArray 3 (0, 0))
  rs : ∀ g l, s.RS g = some l → base ≤ g ∧ h[g]? = some (.cells (l.map intV).toArray 3 (0, 0)) ∧ g ≠ p.Rb
  ws : ∀ g l, s.WS g = some l → base ≤ g ∧ h[g]? = some (.cells (l.map wordV).toArray 30 (0, 0))
  bs : base ≤ p.M ∧ base ≤ p.Rb
def footM (p : Pm) (s : Ms) (k : Nat) : Prop := k = p.M ∨ k = p.Lb ∨ k = p.Rb ∨ s.RS k ≠ none ∨ s.WS k ≠ none
theorem RepM.lt {base : Nat} {h : Heap} {p : Pm} {s : Ms} (R : RepM base h p s) {k : Nat} (hk : footM p s k) : base ≤ k ∧ k < h.size := by
  have in_ : ∀ {k : Nat} {o : Obj}, h[k]? = some o → k < h.size := fun hx => (Array.getElem?_eq_some_iff.1 hx).1
  rcases hk with rfl | rfl | rfl | hk | hk
  · exact ⟨R.bs.1, in_ R.mp⟩
  · exact R.lo.lt _ rfl
  · exact ⟨R.bs.2, in_ R.rp⟩
  · cases hl : s.RS k with
    | none => exact absurd hl hk
    | some l => exact ⟨(R.rs k l hl).1, in_ (R.rs k l hl).2.1⟩
  · cases hl : s.WS k with
    | none => exact absurd hl hk
    | some l => exact ⟨(R.ws k l hl).1, in_ (R.ws k l hl).2⟩
theorem RepM.fr {base : Nat} {h h' : Heap} {p : Pm} {s : Ms} {D : Nat → Prop} (R : RepM base h p s) (hf : Fr D h h') (hd : ∀ k, footM p s k → ¬ D k) : RepM base h' p s := by
  have sm : ∀ k, footM p s k → h'[k]? = h[k]? := fun k hk => hf.same k (R.lt hk).2 (hd k hk)
  refine ⟨?_, R.lo.fr hf ?_, ?_, ?_, ?_, R.bs⟩
  · rw [sm _ (.inl rfl)]; exact R.mp
  · intro k hk; cases hk; exact hd _ (.inr (.inl rfl))
  · rw [sm _ (.inr (.inr (.inl rfl)))]; exact R.rp
  · intro g l hl
    obtain ⟨h1, h2, h3⟩ := R.rs g l hl
    exact ⟨h1, by rw [sm g (.inr (.inr (.inr (.inl (by rw [hl]; simp)))))]; exact h2, h3⟩
  · intro g l hl
    obtain ⟨h1, h2⟩ := R.ws g l hl
    exact ⟨h1, by rw [sm g (.inr (.inr (.inr (.inr (by rw [hl]; simp)))))]; exact h2⟩
theorem RepM.ext {base : Nat} {h h' : Heap} {p : Pm} {s : Ms} (R : RepM base h p s) (hf : Ext h h') : RepM base h' p s := R.fr hf fun _ _ => id
structure StM (base : Nat) (h h' : Heap) (p p' : Pm) (s s' : Ms) : Prop where
  rep : RepM base h' p' s'
  fr : Fr (footM p s) h h'
  nw : ∀ k, footM p' s' k → footM p s k ∨ h.size ≤ k
theorem StM.refl {base : Nat} {h : Heap} {p : Pm} {s : Ms} (R : RepM base h p s) : StM base h h p p s s := ⟨R, Fr.refl _ _, fun _ hk => .inl hk⟩
theorem StM.trans {base : Nat} {h h' h'' : Heap} {p p' p'' : Pm} {s s' s'' : Ms} (A : StM base h h' p p' s s') (B : StM base h' h'' p' p'' s' s'') : StM base h h'' p p'' s s'' := by
  refine ⟨B.rep, Fr.trans A.fr B.fr (fun _ _ h => h) fun k hk hp => ?_, fun k hk => ?_⟩
  · rcases A.nw k hp with h1 | h1
    · exact h1
    · omega
  · rcases B.nw k hk with h1 | h1
    · exact A.nw k h1
    · exact .inr (Nat.le_trans A.fr.size h1)
theorem StM.ext {base : Nat} {h h' h'' : Heap} {p p' : Pm} {s s' : Ms} (A : StM base h h' p p' s s') (B : Ext h' h'') : StM base h h'' p p' s s' :=
  ⟨A.rep.ext B, Fr.trans A.fr B (fun _ _ h => h) (fun _ _ h => h.elim), A.nw⟩
theorem StM.pre {base : Nat} {h h' h'' : Heap} {p p' : Pm} {s s' : Ms} (B : Ext h h') (A : StM base h' h'' p p' s s') : StM base h h'' p p' s s' :=
  ⟨A.rep, Fr.trans B A.fr (fun _ _ h => h.elim) (fun _ _ h => h), fun k hk => (A.nw k hk).imp id fun x => Nat.le_trans B.size x⟩
/-- Which blocks differ. -/
structure DisM (p : Pm) (s : Ms) : Prop where
  ml : p.M ≠ p.Lb
  mr : p.M ≠ p.Rb
  lr : p.Lb ≠ p.Rb
  rs : ∀ k, s.RS k ≠ none → k ≠ p.M ∧ k ≠ p.Lb ∧ k ≠ p.Rb
  ws : ∀ k, s.WS k ≠ none → k ≠ p.M ∧ k ≠ p.Lb ∧ k ≠ p.Rb ∧ s.RS k = none
theorem RepM.dis {base : Nat} {h : Heap} {p : Pm} {s : Ms} (R : RepM base h p s) : DisM p s := by
  obtain ⟨cl, zl, tl, _⟩ := Own.blk R.lo (k := p.Lb) rfl
  refine ⟨blk_ne R.mp tl (by decide), blk_ne R.mp R.rp (by decide), blk_ne tl R.rp (by decide), fun k hk => ?_, fun k hk => ?_⟩
  · cases hl : s.RS k with
    | none => exact absurd hl hk
    | some l =>
      obtain ⟨_, t, hn⟩ := R.rs k l hl
      exact ⟨blk_ne t R.mp (by decide), blk_ne t tl (by decide), hn⟩
  · cases hl : s.WS k with
    | none => exact absurd hl hk
    | some l =>
      obtain ⟨_, t⟩ := R.ws k l hl
      refine ⟨blk_ne t R.mp (by decide), blk_ne t tl (by decide), blk_ne t R.rp (by decide), ?_⟩
      cases hr : s.RS k with
      | none => rfl
      | some l' => exact absurd rfl (blk_ne t (R.rs k l' hr).2.1 (by decide))
section
variable {base : Nat} {h : Heap} {p : Pm} {s : Ms}
theorem frM_foot {h h' : Heap} {p : Pm} {s : Ms} {b : Nat} (hf : Fr (fun k => k = b) h h') (hb : footM p s b) : Fr (footM p s) h h' := hf.mono fun k _ hk => by rw [hk]; exact hb
theorem RepM.root (R : RepM base h p s) {k : Nat} (hk : k < s.roots.length) (r : Nat) : StM base h (setAt h ⟨p.Rb, k, none⟩ (intV r)) p p s { s with roots := s.roots.set k r } := by
  have D := R.dis
  have F : Fr (fun k => k = p.Rb) h (setAt h ⟨p.Rb, k, none⟩ (intV r)) := fr_set
  have sm : ∀ j, footM p s j → j ≠ p.Rb → (setAt h ⟨p.Rb, k, none⟩ (intV r))[j]? = h[j]? := fun j hj hn => F.same j (R.lt hj).2 hn
  refine ⟨⟨?_, R.lo.fr F ?_, ?_, ?_, ?_, R.bs⟩, frM_foot F (.inr (.inr (.inl rfl))), fun j hj => .inl hj⟩
  · rw [sm _ (.inl rfl) D.mr]; exact R.mp
  · intro j hj e; cases hj; exact D.lr e
  · rw [(plain_cell R.rp (by simpa using hk)).2.2, List.map_set]
  · intro g l hg
    obtain ⟨h1, h2, h3⟩ := R.rs g l hg
    exact ⟨h1, by rw [sm g (.inr (.inr (.inr (.inl (by rw [hg]; simp))))) (D.rs g (by rw [hg]; simp)).2.2]; exact h2, h3⟩
  · intro g l hg
    obtain ⟨h1, h2⟩ := R.ws g l hg
    exact ⟨h1, by rw [sm g (.inr (.inr (.inr (.inr (by rw [hg]; simp))))) (D.ws g (by rw [hg]; simp)).2.2.1]; exact h2⟩
theorem RepM.usedS (R : RepM base h p s) (n : Nat) : StM base h (setAt h ⟨p.M, 3, none⟩ (.int .i64 (n : Int))) p p s { s with used := n } := by
  have D := R.dis
  have F : Fr (fun k => k = p.M) h (setAt h ⟨p.M, 3, none⟩ (.int .i64 (n : Int))) := fr_set
  have sm : ∀ j, footM p s j → j ≠ p.M → (setAt h ⟨p.M, 3, none⟩ (.int .i64 (n : Int)))[j]? = h[j]? := fun j hj hn => F.same j (R.lt hj).2 hn
  refine ⟨⟨?_, R.lo.fr F ?_, ?_, ?_, ?_, R.bs⟩, frM_foot F (.inl rfl), fun j hj => .inl hj⟩
  · rw [setAt_get R.mp]; rfl
  · intro j hj e; cases hj; exact D.ml e.symm
  · rw [sm _ (.inr (.inr (.inl rfl))) (Ne.symm D.mr)]; exact R.rp
  · intro g l hg
    obtain ⟨h1, h2, h3⟩ := R.rs g l hg
    exact ⟨h1, by rw [sm g (.inr (.inr (.inr (.inl (by rw [hg]; simp))))) (D.rs g (by rw [hg]; simp)).1]; exact h2, h3⟩
  · intro g l hg
    obtain ⟨h1, h2⟩ := R.ws g l hg
    exact ⟨h1, by rw [sm g (.inr (.inr (.inr (.inr (by rw [hg]; simp))))) (D.ws g (by rw [hg]; simp)).1]; exact h2⟩
theorem footM_upd {s : Ms} {g : Nat} {l : List Nat} (hgn : s.RS g ≠ none) : ∀ j, footM p { s with RS := upd s.RS g l } j → footM p s j := by
  intro j hj
  rcases hj with hj | hj | hj | hj | hj
  · exact .inl hj
  · exact .inr (.inl hj)
  · exact .inr (.inr (.inl hj))
  · by_cases e : j = g
    · subst e; exact .inr (.inr (.inr (.inl hgn)))
    · simp only [upd_ne e] at hj; exact .inr (.inr (.inr (.inl hj)))
  · exact .inr (.inr (.inr (.inr hj)))
theorem RepM.ref (R : RepM base h p s) {g k : Nat} {l : List Nat} (hg : s.RS g = some l) (hk : k < l.length) (r : Nat) : StM base h (setAt h ⟨g, k, none⟩ (intV r)) p p s { s with RS := upd s.RS g (l.set k r) } := by
  have D := R.dis
  have hgn : s.RS g ≠ none := by rw [hg]; simp
  have F : Fr (fun k => k = g) h (setAt h ⟨g, k, none⟩ (intV r)) := fr_set
  have sm : ∀ j, footM p s j → j ≠ g → (setAt h ⟨g, k, none⟩ (intV r))[j]? = h[j]? := fun j hj hn => F.same j (R.lt hj).2 hn
  obtain ⟨d1, d2, d3⟩ := D.rs g hgn
  refine ⟨⟨?_, R.lo.fr F ?_, ?_, ?_, ?_, R.bs⟩, frM_foot F (.inr (.inr (.inr (.inl hgn)))), fun j hj => .inl (footM_upd hgn j hj)⟩
  · rw [sm _ (.inl rfl) (Ne.symm d1)]; exact R.mp
  · intro j hj e; cases hj; exact d2 e.symm
  · rw [sm _ (.inr (.inr (.inl rfl))) (Ne.symm d3)]; exact R.rp
  · intro g' l' hg'
    by_cases e : g' = g
    · subst e
      simp only [upd_eq, Option.some.injEq] at hg'
      subst hg'
      obtain ⟨h1, h2, h3⟩ := R.rs g' l hg
      refine ⟨h1, ?_, h3⟩
      rw [(plain_cell h2 (by simpa using hk)).2.2, List.map_set]
    · simp only [upd_ne e] at hg'
      obtain ⟨h1, h2, h3⟩ := R.rs g' l' hg'
      exact ⟨h1, by rw [sm g' (.inr (.inr (.inr (.inl (by rw [hg']; simp))))) e]; exact h2, h3⟩
  · intro g' l' hg'
    obtain ⟨h1, h2⟩ := R.ws g' l' hg'
    refine ⟨h1, ?_⟩
    rw [sm g' (.inr (.inr (.inr (.inr (by rw [hg']; simp))))) (fun e => by
      have := (D.ws g' (by rw [hg']; simp)).2.2.2
      rw [e] at this; exact hgn this)]
    exact h2
theorem RepM.word (R : RepM base h p s) {g k : Nat} {l : List Nat} (hg : s.WS g = some l) (hk : k < l.length) (r : Nat) : StM base h (setAt h ⟨g, k, none⟩ (wordV r)) p p s { s with WS := upd s.WS g (l.set k r) } := by
  have D := R.dis
  have hgn : s.WS g ≠ none := by rw [hg]; simp
  have F : Fr (fun k => k = g) h (setAt h ⟨g, k, none⟩ (wordV r)) := fr_set
  have sm : ∀ j, footM p s j → j ≠ g → (setAt h ⟨g, k, none⟩ (wordV r))[j]? = h[j]? := fun j hj hn => F.same j (R.lt hj).2 hn
  obtain ⟨d1, d2, d3, d4⟩ := D.ws g hgn
  refine ⟨⟨?_, R.lo.fr F ?_, ?_, ?_, ?_, R.bs⟩, frM_foot F (.inr (.inr (.inr (.inr hgn)))), fun j hj => .inl ?_⟩
  · rw [sm _ (.inl rfl) (Ne.symm d1)]; exact R.mp
  · intro j hj e; cases hj; exact d2 e.symm
  · rw [sm _ (.inr (.inr (.inl rfl))) (Ne.symm d3)]; exact R.rp
  · intro g' l' hg'
    obtain ⟨h1, h2, h3⟩ := R.rs g' l' hg'
    refine ⟨h1, ?_, h3⟩
    rw [sm g' (.inr (.inr (.inr (.inl (by rw [hg']; simp))))) (fun e => by rw [e, d4] at hg'; cases hg')]
    exact h2
  · intro g' l' hg'
    by_cases e : g' = g
    · subst e
      simp only [upd_eq, Option.some.injEq] at hg'
      subst hg'
      obtain ⟨h1, h2⟩ := R.ws g' l hg
      refine ⟨h1, ?_⟩
      rw [(plain_cell h2 (by simpa using hk)).2.2, List.map_set]
    · simp only [upd_ne e] at hg'
      obtain ⟨h1, h2⟩ := R.ws g' l' hg'
      exact ⟨h1, by rw [sm g' (.inr (.inr (.inr (.inr (by rw [hg']; simp))))) e]; exact h2⟩
  · rcases hj with hj | hj | hj | hj | hj
    · exact .inl hj
    · exact .inr (.inl hj)
    · exact .inr (.inr (.inl hj))
    · exact .inr (.inr (.inr (.inl hj)))
    · by_cases e : j = g
      · subst e; exact .inr (.inr (.inr (.inr hgn)))
      · simp only [upd_ne e] at hj; exact .inr (.inr (.inr (.inr hj)))
/-- A thing turns whole. -/
theorem RepM.thing (R : RepM base h p s) {h' : Heap} {i : Nat} {c c' : TP} (hi : s.L[i]? = some c) (F : Fr (fun k => k = p.Lb) h h')
    (H : ∀ cur fz, h[p.Lb]? = some (.cells cur 65 fz) → h'[p.Lb]? = some (.cells (cur.toList.take (i * 3) ++ c'.row ++ cur.toList.drop (i * 3 + 3)).toArray 65 fz)) : StM base h h' p p s { s with L := s.L.set i c' } := by
  have D := R.dis
  have sm : ∀ j, footM p s j → j ≠ p.Lb → h'[j]? = h[j]? := fun j hj hn => F.same j (R.lt hj).2 hn
  have hil := (List.getElem?_eq_some_iff.1 hi).1
  refine ⟨⟨?_, ?_, ?_, ?_, ?_, R.bs⟩, frM_foot F (.inr (.inl rfl)), fun j hj => .inl hj⟩
  · rw [sm _ (.inl rfl) D.ml]; simp only [List.length_set]; exact R.mp
  · simp only [List.length_set]
    obtain ⟨hl, h0⟩ := R.lo
    rcases h0 with ⟨hv, _⟩ | ⟨g', cap', cur, fz, hv, hb, hg, hfz, hnc, hcm, hcs, htk⟩
    · cases hv
    · cases hv
      have hmul := Nat.mul_le_mul_right 3 hnc
      have hcl : cur.toList.length = p.lc * 3 := by rw [Array.length_toList, hcs]
      refine ⟨by rw [rows3_len, List.length_set], .inr ⟨p.Lb, p.lc, _, fz, rfl, hb, H cur fz hg, hfz, hnc, hcm, ?_, ?_⟩⟩
      · simp only [List.size_toArray, List.length_append, List.length_take, List.length_drop, hcl, row3_len]; omega
      · show (cur.toList.take (i * 3) ++ c'.row ++ cur.toList.drop (i * 3 + 3)).take (s.L.length * 3) = _
        rw [rows3_put hi, ← htk]
        rw [List.take_append, List.length_append, List.length_take, hcl, row3_len, Nat.min_eq_left (by omega), List.take_of_length_le (by simp only [List.length_append, List.length_take, hcl, row3_len]; omega),
          List.take_take, Nat.min_eq_left (by omega), List.drop_take]
  · rw [sm _ (.inr (.inr (.inl rfl))) (Ne.symm D.lr)]; exact R.rp
  · intro g l hg
    obtain ⟨h1, h2, h3⟩ := R.rs g l hg
    exact ⟨h1, by rw [sm g (.inr (.inr (.inr (.inl (by rw [hg]; simp))))) (D.rs g (by rw [hg]; simp)).2.1]; exact h2, h3⟩
  · intro g l hg
    obtain ⟨h1, h2⟩ := R.ws g l hg
    exact ⟨h1, by rw [sm g (.inr (.inr (.inr (.inr (by rw [hg]; simp))))) (D.ws g (by rw [hg]; simp)).2.1]; exact h2⟩
theorem RepM.m0 (R : RepM base h p s) : cellAt h ⟨p.M, 0, none⟩ = some (.slice (some ⟨p.Lb, 0, none⟩) s.L.length p.lc) := by rw [cellAt_of R.mp]; rfl
theorem RepM.m1 (R : RepM base h p s) : cellAt h ⟨p.M, 1, none⟩ = some (.slice (some ⟨p.Rb, 0, none⟩) 16 16) := by rw [cellAt_of R.mp]; rfl
theorem RepM.m2 (R : RepM base h p s) : cellAt h ⟨p.M, 2, none⟩ = some (.int .i64 (s.limit : Int)) := by rw [cellAt_of R.mp]; rfl
theorem RepM.m3 (R : RepM base h p s) : cellAt h ⟨p.M, 3, none⟩ = some (.int .i64 (s.used : Int)) := by rw [cellAt_of R.mp]; rfl
theorem RepM.mz (R : RepM base h p s) (k : Nat) : frozenAt h ⟨p.M, k, none⟩ = false := by simp [frozenAt, R.mp]
theorem RepM.rk (R : RepM base h p s) {k r : Nat} (hk : s.roots[k]? = some r) : cellAt h ⟨p.Rb, k, none⟩ = some (intV r) ∧ frozenAt h ⟨p.Rb, k, none⟩ = false :=
  ⟨by rw [cellAt_of R.rp, List.getElem?_toArray, List.getElem?_map, hk]; rfl, by simp [frozenAt, R.rp]⟩
theorem RepM.rc (R : RepM base h p s) {g k x : Nat} {l : List Nat} (hg : s.RS g = some l) (hk : l[k]? = some x) : cellAt h ⟨g, k, none⟩ = some (intV x) ∧ frozenAt h ⟨g, k, none⟩ = false := by
  obtain ⟨_, h1, _⟩ := R.rs g l hg
  exact ⟨by rw [cellAt_of h1, List.getElem?_toArray, List.getElem?_map, hk]; rfl, by simp [frozenAt, h1]⟩
theorem RepM.wc (R : RepM base h p s) {g k x : Nat} {l : List Nat} (hg : s.WS g = some l) (hk : l[k]? = some x) : cellAt h ⟨g, k, none⟩ = some (wordV x) ∧ frozenAt h ⟨g, k, none⟩ = false := by
  obtain ⟨_, h1⟩ := R.ws g l hg
  exact ⟨by rw [cellAt_of h1, List.getElem?_toArray, List.getElem?_map, hk]; rfl, by simp [frozenAt, h1]⟩
theorem RepM.at (R : RepM base h p s) {i : Nat} {c : TP} (hi : s.L[i]? = some c) : ∀ j v, c.row[j]? = some v → cellAt h ⟨p.Lb, i * 3 + j, none⟩ = some v := fun j v hv =>
  Own_at R.lo (by rw [rows3_get hi (List.getElem?_eq_some_iff.1 hv).1]; exact hv)
end
end Go.Proofs.Ytidkokdkldfglaa

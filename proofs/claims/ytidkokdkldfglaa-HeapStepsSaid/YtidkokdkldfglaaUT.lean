/- All looked at, by the program: numbered, turned, put together. No condition. -/
import Derived.Test.YtidkokdkldfglaaUS
namespace Go.Proofs.Ytidkokdkldfglaa
open Go.Vc
set_option maxRecDepth 100000
set_option linter.unusedSimpArgs false
set_option linter.unusedVariables false

theorem Rep.cutOld {base : Nat} {h h1 : Heap} {p : Ph} {s : St} (R : Rep base h p s) {l : List CP} (F1 : Fr (fun k => k = p.O) h h1) (O1 : Own h1 base 85 7 (.slice (some ⟨p.O, 0, none⟩) l.length p.oc) l.length (rows l)) :
    Stp base h (setAt h1 ⟨p.H, 1, none⟩ (.slice (some ⟨p.O, 0, none⟩) l.length p.oc)) p p s { s with old := l } := by
  have D := R.dis
  have F2 : Fr (fun k => k = p.H) h1 (setAt h1 ⟨p.H, 1, none⟩ (.slice (some ⟨p.O, 0, none⟩) l.length p.oc)) := fr_set
  have F : Fr (fun k => k = p.O ∨ k = p.H) h (setAt h1 ⟨p.H, 1, none⟩ (.slice (some ⟨p.O, 0, none⟩) l.length p.oc)) := Fr.trans F1 F2 (fun _ _ h => .inl h) (fun _ _ h => .inr h)
  have sm : ∀ j, foot p s j → j ≠ p.O → j ≠ p.H → (setAt h1 ⟨p.H, 1, none⟩ (.slice (some ⟨p.O, 0, none⟩) l.length p.oc))[j]? = h[j]? := fun j hj hn hm => F.same j (R.lt hj).2 (by simp [hn, hm])
  have hp1 : h1[p.H]? = h[p.H]? := F1.same _ (R.lt (.inr (.inl rfl))).2 D.ho
  have hp := R.hp
  rw [← hp1] at hp
  refine ⟨⟨?_, ?_, R.yo.fr F ?_, ?_, R.fo.fr F ?_, ?_, ?_, R.ne, R.bs⟩, F.mono fun k _ hk => ?_, fun j hj => .inl hj⟩
  · rw [sm _ (.inl rfl) D.so D.sh]; exact R.sp
  · rw [setAt_get hp]; rfl
  · intro j hj e; cases hj
    rcases e with e | e
    · exact D.yo e
    · exact D.hy e.symm
  · exact O1.fr F2 (fun k hk e => by cases hk; exact D.ho e.symm)
  · intro j hj e
    rcases e with e | e
    · exact (D.fv j hj).2.2.2 e
    · exact (D.fv j hj).2.1 e
  · intro g l hg
    obtain ⟨h1, h2, h3⟩ := R.rs g l hg
    have d := D.rs g (by rw [hg]; simp)
    exact ⟨h1, by rw [sm g (.inr (.inr (.inr (.inr (.inr (.inl (by rw [hg]; simp))))))) d.2.2.2.1 d.2.1]; exact h2, h3⟩
  · intro g l hg
    obtain ⟨h1, h2⟩ := R.ws g l hg
    have d := D.ws g (by rw [hg]; simp)
    exact ⟨h1, by rw [sm g (.inr (.inr (.inr (.inr (.inr (.inr (by rw [hg]; simp))))))) d.2.2.2.1 d.2.1]; exact h2⟩
  · rcases hk with rfl | rfl
    · exact .inr (.inr (.inr (.inl rfl)))
    · exact .inr (.inl rfl)
theorem half_set {α β : Type} {f : α → α} : ∀ {l : List α} {k : Nat} {x : α}, l[k]? = some x → ((l.take k).map f ++ l.drop k).set k (f x) = (l.take (k + 1)).map f ++ l.drop (k + 1)
  | [], k, x, h => by simp at h
  | a :: r, 0, x, h => by simp at h; subst h; simp
  | a :: r, k + 1, x, h => by
    rw [List.getElem?_cons_succ] at h
    simp only [List.take_succ_cons, List.map_cons, List.drop_succ_cons, List.cons_append, List.set_cons_succ]
    rw [half_set (β := β) h]
theorem half_get {α : Type} {f : α → α} : ∀ {l : List α} {k i : Nat}, k ≤ i → ((l.take k).map f ++ l.drop k)[i]? = l[i]?
  | l, 0, i, _ => by simp
  | [], k + 1, i, _ => by simp
  | a :: r, k + 1, 0, h => by omega
  | a :: r, k + 1, i + 1, h => by
    simp only [List.take_succ_cons, List.map_cons, List.drop_succ_cons, List.cons_append, List.getElem?_cons_succ]
    exact half_get (by omega)
theorem half_len {α : Type} {f : α → α} {l : List α} {k : Nat} : ((l.take k).map f ++ l.drop k).length = l.length := by simp only [List.length_append, List.length_map, List.length_take, List.length_drop]; omega
set_option maxHeartbeats 2000000 in
theorem Major_t0 {base : Nat} {h hc : Heap} {p p1 : Ph} {s0 s : St} {b k : Nat} {v10 : Value} (W : Stp base h hc p p1 s0 s) (B : Bx hc p1 s b) (hz : s.old[0]? = some nul) (hn : s.old.length ≤ 100000)
    {Q : Value → Heap → Prop} (H : ∀ v h' p', Stp base h h' p p' s0 { s with old := ((s.old.set 0 { nul with to := 1 }).filter goes).map unto } → Pk p1 p' → Q v h') :
    Cd.vc Try.prog C.h_Major_t0 (retQ Try.prog [] Q) [(2, ptr b 0), (10, v10), (11, .int .i64 (k : Int)), (109, .bool false)] hc := by
  have hl := (List.getElem?_eq_some_iff.1 hz).1
  have bx := B.get
  have l1 := W.rep.h1
  have b0 : (0 : Int) < (s.old.length : Int) := by omega
  have a5 : cellAt hc ⟨p1.O, 5, none⟩ = some (.int .u32 0) := Own_at W.rep.oo (q := 0 * 7 + 5) (by rw [rows_get hz (by decide)]; rfl)
  have z5 : frozenAt hc ⟨p1.O, 5, none⟩ = false := (Own_cell W.rep.oo (p := 5) (by omega)).2.1
  simp (disch := first | omega | assumption) only [C.h_Major_gos, T.tv, ↓reduceIte, Nat.reduceEqDiff, reduceCtorEq, Nat.reduceLeDiff, Nat.reducePow, Int.reducePow, Int.reduceToNat, Nat.reduceAdd, C.h_Major_t0_go, bx, l1, b0, Int.reduceLE, Nat.zero_mul]
  refine eff_store1_z T.zr_51 rfl rfl rfl rfl rfl a5 z5 ?_
  have S1 := W.rep.oldc (c' := { nul with to := 1 }) (v := .int .u32 1) hz (j := 5) (by decide) rfl
  have W1 := W.trans S1
  have B1 := B.stp S1 Pk.refl
  clear S1 bx l1 a5 z5 b0
  have hl2 : (s.old.set 0 { nul with to := 1 }).length = s.old.length := List.length_set
  generalize s.old.set 0 { nul with to := 1 } = l2 at *
  generalize setAt hc ⟨p1.O, 0 * 7 + 5, none⟩ (.int .u32 1) = h1 at *
  have bx := B1.get
  have l1 : cellAt h1 ⟨p1.H, 1, none⟩ = some (.slice (some ⟨p1.O, 0, none⟩) l2.length p1.oc) := W1.rep.h1
  have Dl := Delete_any W1.rep.oo rfl (by show l2.length ≤ _; omega)
  change HCalls Try.prog _ #[.slice (some ⟨p1.O, 0, none⟩) l2.length p1.oc, _] h1 (fun v h' => Fr (fun k => k = p1.O) h1 h' ∧ v = .slice (some ⟨p1.O, 0, none⟩) (l2.filter goes).length p1.oc ∧ Own h' base _ 7 (.slice (some ⟨p1.O, 0, none⟩) (l2.filter goes).length p1.oc) (l2.filter goes).length (rows (l2.filter goes))) at Dl
  simp (disch := first | omega | assumption) only [C.h_Major_gos, T.tv, ↓reduceIte, Nat.reduceEqDiff, reduceCtorEq, Nat.reduceLeDiff, Nat.reducePow, Int.reducePow, Int.reduceToNat, Nat.reduceAdd, bx, l1]
  refine eff_callF rfl (Dl.mono ?_)
  rintro v h2 ⟨F2, rfl, O2⟩
  have D := W1.rep.dis
  have bx2 : cellAt h2 ⟨b, 0, none⟩ = some (ptr p1.H 0) := by rw [F2.cell B1.lt (fun e => B1.n (.inr (.inr (.inr (.inl e)))))]; exact bx
  have l12 : cellAt h2 ⟨p1.H, 1, none⟩ = some (.slice (some ⟨p1.O, 0, none⟩) l2.length p1.oc) := by rw [F2.cell (W1.rep.lt (.inr (.inl rfl))).2 D.ho]; exact l1
  have z12 : frozenAt h2 ⟨p1.H, 1, none⟩ = false := by rw [frozenAt_block (F2.same _ (W1.rep.lt (.inr (.inl rfl))).2 D.ho)]; exact W1.rep.hz 1
  have S2 := W1.rep.cutOld (l := l2.filter goes) F2 O2
  have W2 := W1.trans S2
  have B2 := B1.stp S2 Pk.refl
  clear S2
  simp (disch := first | omega | assumption) only [C.h_Major_gos, T.tv, ↓reduceIte, Nat.reduceEqDiff, reduceCtorEq, Nat.reduceLeDiff, Nat.reducePow, Int.reducePow, Int.reduceToNat, Nat.reduceAdd, bx2]
  refine eff_store1_z T.zr_67 rfl rfl rfl rfl rfl l12 z12 ?_
  clear l12 z12 bx2 l1 bx Dl O2 F2 W1 B1
  have hlf : (l2.filter goes).length ≤ l2.length := List.length_filter_le _ _
  generalize l2.filter goes = l3 at *
  generalize setAt h2 ⟨p1.H, 1, none⟩ (.slice (some ⟨p1.O, 0, none⟩) l3.length p1.oc) = h3 at *
  have bx := B2.get
  have l1 : cellAt h3 ⟨p1.H, 1, none⟩ = some (.slice (some ⟨p1.O, 0, none⟩) l3.length p1.oc) := W2.rep.h1
  simp (disch := first | omega | assumption) only [C.h_Major_gos, T.tv, ↓reduceIte, Nat.reduceEqDiff, reduceCtorEq, Nat.reduceLeDiff, Nat.reducePow, Int.reducePow, Int.reduceToNat, Nat.reduceAdd, bx, l1]
  refine loop_intro [2, 164, 165] (fun m ρ hc => ∃ i, m = l3.length - i ∧ i ≤ l3.length ∧ ρ = [(2, ptr b 0), (164, .int .i64 (l3.length : Int)), (165, .int .i64 (i : Int))] ∧ Stp base h hc p p1 s0 { s with old := (l3.take i).map unto ++ l3.drop i } ∧ Bx hc p1 { s with old := (l3.take i).map unto ++ l3.drop i } b) ?_ ?_
  · simp (disch := first | omega | assumption) only [C.h_Major_gos, T.tv, ↓reduceIte, Nat.reduceEqDiff, reduceCtorEq, Nat.reduceLeDiff, Nat.reducePow, Int.reducePow, Int.reduceToNat, Nat.reduceAdd]
    exact ⟨_, 0, rfl, Nat.zero_le _, rfl, by simpa using W2, by simpa using B2⟩
  clear W2 B2 bx l1
  rintro m ρ hc1 ⟨i, rfl, hi, rfl, W3, B3⟩
  have hln := half_len (f := unto) (l := l3) (k := i)
  by_cases c1 : i < l3.length
  · have c2 : (i : Int) < (l3.length : Int) := by omega
    have b1 : (0 : Int) ≤ (i : Int) := by omega
    have w : IntKind.i64.wrap ((i : Int) + 1) = ((i + 1 : Nat) : Int) := by rw [wrap_i64 (by omega) (by omega)]; omega
    have hci : l3[i]? = some l3[i] := by simp
    generalize l3[i] = c at hci
    have hgi : ((l3.take i).map unto ++ l3.drop i)[i]? = some c := by rw [half_get (Nat.le_refl i)]; exact hci
    have hst := half_set (β := CP) (f := unto) hci
    have bx := B3.get
    have l1 : cellAt hc1 ⟨p1.H, 1, none⟩ = some (.slice (some ⟨p1.O, 0, none⟩) l3.length p1.oc) := by have := W3.rep.h1; rw [hln] at this; exact this
    have a5 : cellAt hc1 ⟨p1.O, i * 7 + 5, none⟩ = some (.int .u32 (c.to : Int)) := Own_at W3.rep.oo (by rw [rows_get hgi (by decide)]; rfl)
    have z5 : frozenAt hc1 ⟨p1.O, i * 7 + 5, none⟩ = false := (Own_cell W3.rep.oo (p := i * 7 + 5) (by simp only [hln]; omega)).2.1
    simp (disch := first | omega | assumption) only [C.h_Major_gos, T.tv, ↓reduceIte, Nat.reduceEqDiff, reduceCtorEq, Nat.reduceLeDiff, Nat.reducePow, Int.reducePow, Int.reduceToNat, Nat.reduceAdd, c2, b1, bx, l1]
    refine eff_store1_z T.zr_51 rfl rfl rfl rfl rfl a5 z5 ?_
    have S3 := W3.rep.oldc (c' := unto c) (v := .int .u32 0) hgi (j := 5) (by decide) rfl
    have e : ({ s with old := ((l3.take i).map unto ++ l3.drop i).set i (unto c) } : St) = { s with old := (l3.take (i + 1)).map unto ++ l3.drop (i + 1) } := by rw [hst]
    have W4 := W3.trans S3
    have B4 := B3.stp S3 Pk.refl
    simp only [e] at W4 B4
    simp (disch := first | omega | assumption) only [C.h_Major_gos, T.tv, ↓reduceIte, Nat.reduceEqDiff, reduceCtorEq, Nat.reduceLeDiff, Nat.reducePow, Int.reducePow, Int.reduceToNat, Nat.reduceAdd, w]
    exact ⟨_, by omega, i + 1, rfl, by omega, rfl, W4, B4⟩
  · have c2 : ¬ (i : Int) < (l3.length : Int) := by omega
    have ei : i = l3.length := by omega
    subst ei
    simp (disch := first | omega | assumption) only [C.h_Major_gos, T.tv, ↓reduceIte, Nat.reduceEqDiff, reduceCtorEq, Nat.reduceLeDiff, Nat.reducePow, Int.reducePow, Int.reduceToNat, Nat.reduceAdd, c2]
    refine H _ _ p1 ?_ Pk.refl
    simpa using W3
/-- What turning needs to know of the numbers. -/
structure TN (s1 s : St) (m : Nat → Bool) : Prop where
  ro : s.roots = s1.roots
  rs : s.RS = s1.RS
  ol : s.old.length = s1.old.length
  lk : ∀ x, (x = 0 ∨ m x = true) → ∃ c, s.old[x]? = some c ∧ c.to = cnt m x
  oc : ∀ (k : Nat) c, s.old[k]? = some c → ∃ c0, s1.old[k]? = some c0 ∧ c.rg = c0.rg ∧ c.rn = c0.rn ∧ (c.to ≠ 0 ↔ m k = true)
  rm : ∀ x ∈ s1.roots, x = 0 ∨ m x = true
  ch : ∀ (k : Nat) c, s1.old[k]? = some c → m k = true → ∀ x ∈ rl s1 c, x = 0 ∨ m x = true
  mk0 : ∀ k, m k = true → k ≠ 0 ∧ k < s1.old.length
set_option maxHeartbeats 4000000 in
theorem Major_t1 {base : Nat} {h hc : Heap} {p p1 : Ph} {s0 s1 s : St} {b : Nat} {v8 v9 : Value} {m : Nat → Bool} (W : Stp base h hc p p1 s0 s) (B : Bx hc p1 s b) (pS : p1.S = p.S) (I1 : Inv s1) (N : TN s1 s m) (hz : s.old[0]? = some nul)
    {Q : Value → Heap → Prop} (H : ∀ v h' p' σ, (∀ (k : Nat) c g l, s1.old[k]? = some c → m k = true → c.rg = some g → s1.RS g = some l → σ g = some (l.map (cnt m))) →
      Stp base h h' p p' s0 { s with old := ((s.old.set 0 { nul with to := 1 }).filter goes).map unto, roots := s1.roots.map (cnt m), RS := σ } → Pk p1 p' → Q v h') :
    Cd.vc Try.prog C.h_Major_t1 (retQ Try.prog [] Q) [(1, .iface 26 (ptr p.S 0)), (2, ptr b 0), (8, v8), (9, v9), (63, .bool false)] hc := by
  have il := I1.len
  have ol := N.ol
  have hus1 := I1.us
  have hul1 := I1.ul
  have hll1 := I1.ll
  simp (disch := first | omega | assumption) only [C.h_Major_gos, T.tv, ↓reduceIte, Nat.reduceEqDiff, reduceCtorEq, Nat.reduceLeDiff, Nat.reducePow, Int.reducePow, Int.reduceToNat, Nat.reduceAdd, C.h_Major_t1_go]
  refine eff_invoke mt_sp rfl rfl ?_
  have E := each_any (S := p1.S) (g := 49) (cap := #[ptr b 0]) (h := hc) (Q := fun k hc => Stp base h hc p p1 s0 { s with roots := (s1.roots.take k).map (cnt m) ++ s1.roots.drop k } ∧ Bx hc p1 { s with roots := (s1.roots.take k).map (cnt m) ++ s1.roots.drop k } b) T.able_49
    (by
      have e : (s1.roots.take 0).map (cnt m) ++ s1.roots.drop 0 = s.roots := by rw [N.ro]; simp
      rw [e]; exact ⟨W, B⟩)
    (by
      rintro k hc hk ⟨W1, B1⟩
      have hx : s1.roots[k]? = some (s1.roots[k]'(by rw [I1.rt]; exact hk)) := by simp
      generalize s1.roots[k]'(by rw [I1.rt]; exact hk) = x at hx
      obtain ⟨c, hc1, hc2⟩ := N.lk x (N.rm x (List.mem_of_getElem? hx))
      have hl : getL { s with roots := (s1.roots.take k).map (cnt m) ++ s1.roots.drop k } (.root k) = some x := by
        show ((s1.roots.take k).map (cnt m) ++ s1.roots.drop k)[k]? = _
        rw [half_get (Nat.le_refl k)]; exact hx
      refine (Major2_any W1.rep B1 hl hc1).mono ?_
      intro v h' S2
      have e : setL { s with roots := (s1.roots.take k).map (cnt m) ++ s1.roots.drop k } (.root k) c.to = { s with roots := (s1.roots.take (k + 1)).map (cnt m) ++ s1.roots.drop (k + 1) } := by
        rw [hc2]
        show ({ s with roots := ((s1.roots.take k).map (cnt m) ++ s1.roots.drop k).set k (cnt m x) } : St) = _
        rw [half_set (β := Nat) hx]
      rw [e] at S2
      exact ⟨W1.trans S2, B1.stp S2 Pk.refl⟩)
  rw [pS] at E
  refine E.mono ?_
  clear E
  rintro v h1 ⟨W1, B1⟩
  have er : (s1.roots.take 16).map (cnt m) ++ s1.roots.drop 16 = s1.roots.map (cnt m) := by
    rw [List.take_of_length_le (by rw [I1.rt]; exact Nat.le_refl _), List.drop_of_length_le (by rw [I1.rt]; exact Nat.le_refl _), List.append_nil]
  rw [er] at W1 B1
  clear W B
  simp (disch := first | omega | assumption) only [C.h_Major_gos, T.tv, ↓reduceIte, Nat.reduceEqDiff, reduceCtorEq, Nat.reduceLeDiff, Nat.reducePow, Int.reducePow, Int.reduceToNat, Nat.reduceAdd]
  refine loop_intro [2, 10, 11] (fun mm ρ hc => ∃ k σ, mm = s1.old.length - k ∧ 1 ≤ k ∧ k ≤ s1.old.length ∧ ρ = [(2, ptr b 0), (10, .func (.func 49) #[] #[ptr b 0]), (11, .int .i64 (k : Int))] ∧
    Stp base h hc p p1 s0 { s with roots := s1.roots.map (cnt m), RS := σ } ∧ Bx hc p1 { s with roots := s1.roots.map (cnt m), RS := σ } b ∧
    (∀ (j : Nat) c g l, j < k → s1.old[j]? = some c → m j = true → c.rg = some g → s1.RS g = some l → σ g = some (l.map (cnt m))) ∧ (∀ (j : Nat) c g, k ≤ j → s1.old[j]? = some c → c.rg = some g → σ g = s1.RS g)) ?_ ?_
  · simp (disch := first | omega | assumption) only [C.h_Major_gos, T.tv, ↓reduceIte, Nat.reduceEqDiff, reduceCtorEq, Nat.reduceLeDiff, Nat.reducePow, Int.reducePow, Int.reduceToNat, Nat.reduceAdd]
    refine ⟨_, 1, s1.RS, rfl, Nat.le_refl _, by omega, rfl, ?_, ?_, fun j c g l hj _ hm => ?_, fun j c g _ _ _ => rfl⟩
    · rw [← N.rs]; exact W1
    · rw [← N.rs]; exact B1
    · have := (N.mk0 j hm).1; omega
  clear W1 B1
  rintro mm ρ hc1 ⟨k, σ, rfl, hk1, hk, rfl, W2, B2, C1, C2⟩
  have bx := B2.get
  have l1 : cellAt hc1 ⟨p1.H, 1, none⟩ = some (.slice (some ⟨p1.O, 0, none⟩) s.old.length p1.oc) := W2.rep.h1
  by_cases c1 : k < s.old.length
  · have c2 : (k : Int) < (s.old.length : Int) := by omega
    have b1 : (0 : Int) ≤ (k : Int) := by omega
    have w : IntKind.i64.wrap ((k : Int) + 1) = ((k + 1 : Nat) : Int) := by rw [wrap_i64 (by omega) (by omega)]; omega
    obtain ⟨c, hck⟩ : ∃ c, s.old[k]? = some c := ⟨s.old[k], by simp⟩
    obtain ⟨c0, hc0, hcg, hcn, hct⟩ := N.oc k c hck
    have a5 : cellAt hc1 ⟨p1.O, k * 7 + 5, none⟩ = some (.int .u32 (c.to : Int)) := Own_at W2.rep.oo (by rw [rows_get hck (by decide)]; rfl)
    have a3 : cellAt hc1 ⟨p1.O, k * 7 + 3, none⟩ = some (sv c.rg c.rn) := Own_at W2.rep.oo (by rw [rows_get hck (by decide)]; rfl)
    by_cases c3 : c.to = 0
    · have c3' : (c.to : Int) = 0 := by omega
      have hmk : ¬ m k = true := fun h => hct.2 h c3
      simp (disch := first | omega | assumption) only [C.h_Major_gos, T.tv, ↓reduceIte, Nat.reduceEqDiff, reduceCtorEq, Nat.reduceLeDiff, Nat.reducePow, Int.reducePow, Int.reduceToNat, Nat.reduceAdd, c2, b1, bx, l1, a5, c3', w]
      refine ⟨_, by omega, k + 1, σ, rfl, by omega, by omega, rfl, W2, B2, fun j d g l hj hd hm => ?_, fun j d g hj => C2 j d g (by omega)⟩
      by_cases e : j = k
      · subst e; exact absurd hm hmk
      · exact C1 j d g l (by omega) hd hm
    · have c3' : ¬ (c.to : Int) = 0 := by omega
      have hmk : m k = true := hct.1 c3
      have hk31 : k < 2147483648 := by omega
      have lk0 : look s1 k = some c0 := by unfold look; rw [if_pos hk31]; exact hc0
      obtain ⟨gg, l, g1, g2, g3, g4⟩ := (I1.ha k c0 (N.mk0 k hmk).1 (.inl ⟨hk31, by omega⟩) lk0).r
      have hcrg : c.rg = some gg := hcg.trans g1
      have hcrn : c.rn = l.length := hcn.trans g3.symm
      have hsz := sumF_mem (f := CP.size) hc0
      have hsz2 : c0.rn ≤ c0.size := by unfold CP.size; omega
      have hln : l.length ≤ 16386 := by unfold wsum at hus1; omega
      have rlc : rl s1 c0 = l := rl_of g1 g2
      have hσ : σ gg = some l := by rw [C2 k c0 gg (Nat.le_refl _) hc0 g1]; exact g2
      simp (disch := first | omega | assumption) only [C.h_Major_gos, T.tv, ↓reduceIte, Nat.reduceEqDiff, reduceCtorEq, Nat.reduceLeDiff, Nat.reducePow, Int.reducePow, Int.reduceToNat, Nat.reduceAdd, c2, b1, bx, l1, a5, c3', a3, sv, hcrg, hcrn]
      refine loop_intro [2, 10, 11, 129, 130] (fun mm ρ hc => ∃ i σ, mm = l.length - i ∧ i ≤ l.length ∧ ρ = [(2, ptr b 0), (10, .func (.func 49) #[] #[ptr b 0]), (11, .int .i64 (k : Int)), (129, .int .i64 (l.length : Int)), (130, .int .i64 (i : Int))] ∧
        Stp base h hc p p1 s0 { s with roots := s1.roots.map (cnt m), RS := σ } ∧ Bx hc p1 { s with roots := s1.roots.map (cnt m), RS := σ } b ∧
        (∀ (j : Nat) c g l, j < k → s1.old[j]? = some c → m j = true → c.rg = some g → s1.RS g = some l → σ g = some (l.map (cnt m))) ∧ (∀ (j : Nat) c g, k < j → s1.old[j]? = some c → c.rg = some g → σ g = s1.RS g) ∧
        σ gg = some ((l.take i).map (cnt m) ++ l.drop i)) ?_ ?_
      · simp (disch := first | omega | assumption) only [C.h_Major_gos, T.tv, ↓reduceIte, Nat.reduceEqDiff, reduceCtorEq, Nat.reduceLeDiff, Nat.reducePow, Int.reducePow, Int.reduceToNat, Nat.reduceAdd]
        exact ⟨_, 0, σ, rfl, Nat.zero_le _, rfl, W2, B2, C1, fun j d g hj => C2 j d g (by omega), by simpa using hσ⟩
      clear W2 B2 C1 C2 hσ bx l1 a5 a3
      rintro mm ρ hc2 ⟨i, σ, rfl, hi, rfl, W3, B3, C1, C2, hσ⟩
      by_cases c4 : i < l.length
      · have c5 : (i : Int) < (l.length : Int) := by omega
        have b2 : (0 : Int) ≤ (i : Int) := by omega
        have wi : IntKind.i64.wrap ((i : Int) + 1) = ((i + 1 : Nat) : Int) := by rw [wrap_i64 (by omega) (by omega)]; omega
        have hx : l[i]? = some l[i] := by simp
        generalize l[i] = x at hx
        obtain ⟨d, hd1, hd2⟩ := N.lk x (N.ch k c0 hc0 hmk x (by rw [rlc]; exact List.mem_of_getElem? hx))
        have bx := B3.get
        have l1 : cellAt hc2 ⟨p1.H, 1, none⟩ = some (.slice (some ⟨p1.O, 0, none⟩) s.old.length p1.oc) := W3.rep.h1
        have a3 : cellAt hc2 ⟨p1.O, k * 7 + 3, none⟩ = some (sv c.rg c.rn) := Own_at W3.rep.oo (by rw [rows_get hck (by decide)]; rfl)
        have hl : getL { s with roots := s1.roots.map (cnt m), RS := σ } (.ref gg i) = some x := by
          show (σ gg).bind _ = _
          rw [hσ, Option.bind_some, half_get (Nat.le_refl i)]; exact hx
        simp (disch := first | omega | assumption) only [C.h_Major_gos, T.tv, ↓reduceIte, Nat.reduceEqDiff, reduceCtorEq, Nat.reduceLeDiff, Nat.reducePow, Int.reducePow, Int.reduceToNat, Nat.reduceAdd, c2, b1, c5, b2, bx, l1, a3, sv, hcrg, hcrn]
        refine eff_callC rfl rfl T.able_49 ((Major2_any W3.rep B3 hl hd1).mono ?_)
        intro v h' S2
        have e : setL { s with roots := s1.roots.map (cnt m), RS := σ } (.ref gg i) d.to = { s with roots := s1.roots.map (cnt m), RS := upd σ gg ((l.take (i + 1)).map (cnt m) ++ l.drop (i + 1)) } := by
          rw [hd2]
          show ({ s with roots := s1.roots.map (cnt m), RS := upd σ gg (((σ gg).getD []).set i (cnt m x)) } : St) = _
          rw [hσ, Option.getD_some, half_set (β := Nat) hx]
        rw [e] at S2
        have W4 := W3.trans S2
        have B4 := B3.stp S2 Pk.refl
        have other : ∀ (j : Nat) d g, j ≠ k → s1.old[j]? = some d → d.rg = some g → g ≠ gg := by
          intro j d g hj hd hg e
          subst e
          have hjl := (List.getElem?_eq_some_iff.1 hd).1
          exact hj (I1.dr j k d c0 g (by unfold look; rw [if_pos (by omega)]; exact hd) lk0 hg g1)
        simp (disch := first | omega | assumption) only [C.h_Major_gos, T.tv, ↓reduceIte, Nat.reduceEqDiff, reduceCtorEq, Nat.reduceLeDiff, Nat.reducePow, Int.reducePow, Int.reduceToNat, Nat.reduceAdd, wi]
        refine ⟨_, by omega, i + 1, _, rfl, by omega, rfl, W4, B4, fun j d g l' hj hd hm hg hl' => ?_, fun j d g hj hd hg => ?_, upd_eq⟩
        · rw [upd_ne (other j d g (by omega) hd hg)]; exact C1 j d g l' hj hd hm hg hl'
        · rw [upd_ne (other j d g (by omega) hd hg)]; exact C2 j d g hj hd hg
      · have c5 : ¬ (i : Int) < (l.length : Int) := by omega
        have ei : i = l.length := by omega
        subst ei
        simp (disch := first | omega | assumption) only [C.h_Major_gos, T.tv, ↓reduceIte, Nat.reduceEqDiff, reduceCtorEq, Nat.reduceLeDiff, Nat.reducePow, Int.reducePow, Int.reduceToNat, Nat.reduceAdd, c5, w]
        refine ⟨_, by omega, k + 1, σ, rfl, by omega, by omega, rfl, W3, B3, fun j d g l' hj hd hm hg hl' => ?_, fun j d g hj => C2 j d g (by omega)⟩
        by_cases e : j = k
        · subst e
          rw [hc0] at hd; cases hd
          rw [g1] at hg; cases hg
          rw [g2] at hl'; cases hl'
          rw [hσ, List.take_of_length_le (Nat.le_refl _), List.drop_of_length_le (Nat.le_refl _), List.append_nil]
        · exact C1 j d g l' (by omega) hd hm hg hl'
  · have c2 : ¬ (k : Int) < (s.old.length : Int) := by omega
    simp (disch := first | omega | assumption) only [C.h_Major_gos, T.tv, ↓reduceIte, Nat.reduceEqDiff, reduceCtorEq, Nat.reduceLeDiff, Nat.reducePow, Int.reducePow, Int.reduceToNat, Nat.reduceAdd, c2, bx, l1]
    refine Major_t0 W2 B2 hz (by show s.old.length ≤ _; omega) fun v h' p' S' hp' => H v h' p' σ (fun j c g l hj hm hg hl => C1 j c g l ?_ hj hm hg hl) S' hp'
    have := (N.mk0 j hm).2; omega
theorem cnt_le {m : Nat → Bool} (k : Nat) : cnt m k ≤ k := by
  induction k with
  | zero => exact Nat.le_refl _
  | succ k ih =>
    have e1 : cnt m (k + 1) = cnt m k + (if k = 0 ∨ m k = true then 1 else 0) := rfl
    rw [e1]; split <;> omega
set_option maxHeartbeats 4000000 in
theorem Major_t2 {base : Nat} {h hc : Heap} {p p1 : Ph} {s0 s1 s : St} {a : AS} {b tq : Nat} {tv v5 : Value} (hbs : base ≤ h.size) (l1 : s1.limit = s0.limit) (o1 : s1.room = s0.room) (Pk1 : Pk p p1) (I1 : Inv s1) (S1 : Sim s1 a) (y1 : s1.young = [nul]) (f1 : s1.refers = [])
    (W0 : MS base h p s0 p1 b tq hc s [] tv) (K : KInv s1 s [] fun _ => False) (hd : ∀ x ∈ s1.roots, x = 0 ∨ mkd s x) :
    Cd.vc Try.prog C.h_Major_t2 (retQ Try.prog [] fun v h' => ∃ p' s', Stp base h h' p p' s0 s' ∧ Pk p p' ∧ Inv s' ∧ Sim s' a ∧ Total a s'.used ∧ s'.limit = s0.limit ∧ s'.room = s0.room)
      [(1, .iface 26 (ptr p.S 0)), (2, ptr b 0), (4, ptr tq 0), (5, v5), (23, .bool false)] hc := by
  have il := I1.len
  have ol := K.ol
  have hus1 := I1.us
  have hul1 := I1.ul
  have hll1 := I1.ll
  have dn := K.done I1 y1 hd
  obtain ⟨m, hm⟩ : ∃ m, m = mB s := ⟨_, rfl⟩
  rw [← hm] at dn
  have mto : ∀ (k : Nat) c, s.old[k]? = some c → (c.to ≠ 0 ↔ m k = true) := by
    intro k c hk
    rw [hm]; unfold mB; rw [hk]; simp
  obtain ⟨r, hr⟩ : ∃ r, s1.old = nul :: r := by
    cases hx : s1.old with
    | nil => rw [hx] at il; simp at il
    | cons c r => have := I1.o0; rw [hx] at this; cases this; exact ⟨r, rfl⟩
  have hrl : s1.old.length = r.length + 1 := by rw [hr]; rfl
  have bx := W0.bx.get
  have l2 := W0.st.rep.h2
  have z2 := W0.st.rep.hz 2
  simp (disch := first | omega | assumption) only [C.h_Major_gos, T.tv, ↓reduceIte, Nat.reduceEqDiff, reduceCtorEq, Nat.reduceLeDiff, Nat.reducePow, Int.reducePow, Int.reduceToNat, Nat.reduceAdd, C.h_Major_t2_go, bx]
  refine eff_store1_z T.zr_3 rfl rfl rfl rfl rfl l2 z2 ?_
  have S2 := W0.st.rep.used 0
  have W2 := W0.st.trans S2
  have B2 := W0.bx.stp S2 Pk.refl
  clear S2 bx l2 z2
  generalize setAt hc ⟨p1.H, 2, none⟩ (.int .i64 ((0 : Nat) : Int)) = h1 at *
  have r1 : ren m 1 s.old = s.old := by
    apply List.ext_getElem?
    intro i
    rw [ren_get]
    cases hx : s.old[i]? with
    | none => rfl
    | some c =>
      simp only [Option.map_some]
      have : ¬ (i < 1 ∧ m i = true) := by
        rintro ⟨h1, h2⟩
        exact ((dn i).1 h2).1 (by omega)
      rw [if_neg this]
  have u1 : usum m r 1 = 0 := rfl
  have c1' : cnt m 1 = 1 := rfl
  simp (disch := first | omega | assumption) only [C.h_Major_gos, T.tv, ↓reduceIte, Nat.reduceEqDiff, reduceCtorEq, Nat.reduceLeDiff, Nat.reducePow, Int.reducePow, Int.reduceToNat, Nat.reduceAdd]
  refine loop_intro [1, 2, 8, 9] (fun mm ρ hc => ∃ k, mm = s1.old.length - k ∧ 1 ≤ k ∧ k ≤ s1.old.length ∧ ρ = [(1, .iface 26 (ptr p.S 0)), (2, ptr b 0), (8, .int .u32 (cnt m k : Int)), (9, .int .i64 (k : Int))] ∧
    Stp base h hc p p1 s0 { s with old := ren m k s.old, used := usum m r k } ∧ Bx hc p1 { s with old := ren m k s.old, used := usum m r k } b) ?_ ?_
  · simp (disch := first | omega | assumption) only [C.h_Major_gos, T.tv, ↓reduceIte, Nat.reduceEqDiff, reduceCtorEq, Nat.reduceLeDiff, Nat.reducePow, Int.reducePow, Int.reduceToNat, Nat.reduceAdd]
    refine ⟨_, 1, rfl, Nat.le_refl _, by omega, rfl, ?_, ?_⟩
    · rw [r1, u1]; exact W2
    · rw [r1, u1]; exact B2
  clear W2 B2 W0
  rintro mm ρ hc1 ⟨k, rfl, hk1, hk, rfl, W, B⟩
  have bx := B.get
  have ck := cnt_le (m := m) k
  have l1' : cellAt hc1 ⟨p1.H, 1, none⟩ = some (.slice (some ⟨p1.O, 0, none⟩) s.old.length p1.oc) := by have := W.rep.h1; rw [show ({ s with old := ren m k s.old, used := usum m r k } : St).old.length = s.old.length from ren_len] at this; exact this
  by_cases c1 : k < s.old.length
  · have c2 : (k : Int) < (s.old.length : Int) := by omega
    have b1 : (0 : Int) ≤ (k : Int) := by omega
    have w : IntKind.i64.wrap ((k : Int) + 1) = ((k + 1 : Nat) : Int) := by rw [wrap_i64 (by omega) (by omega)]; omega
    obtain ⟨c, hck⟩ : ∃ c, s.old[k]? = some c := ⟨s.old[k], by simp⟩
    have hrk : (ren m k s.old)[k]? = some c := by rw [ren_get, hck]; simp
    have a5 : cellAt hc1 ⟨p1.O, k * 7 + 5, none⟩ = some (.int .u32 (c.to : Int)) := Own_at W.rep.oo (by rw [rows_get hrk (by decide)]; rfl)
    have z5 : frozenAt hc1 ⟨p1.O, k * 7 + 5, none⟩ = false := (Own_cell W.rep.oo (p := k * 7 + 5) (by simp only [ren_len]; omega)).2.1
    obtain ⟨c0, hc0, hcc, _⟩ := K.oc k c hck
    have hrk0 : r[k - 1]? = some c0 := by
      rw [hr, show k = (k - 1) + 1 by omega, List.getElem?_cons_succ] at hc0; exact hc0
    have us := usum_step (m := m) (by omega) hrk0
    have ce : cnt m (k + 1) = cnt m k + (if k = 0 ∨ m k = true then 1 else 0) := rfl
    by_cases c3 : c.to = 0
    · have c3' : (c.to : Int) = 0 := by omega
      have hmk : m k = false := by
        cases hx : m k with
        | false => rfl
        | true => exact absurd c3 ((mto k c hck).2 hx)
      have us' : usum m r (k + 1) = usum m r k := by rw [us, if_neg (by simp [hmk])]; rfl
      have ce' : cnt m (k + 1) = cnt m k := by rw [ce, if_neg (by simp [hmk]; omega)]; rfl
      simp (disch := first | omega | assumption) only [C.h_Major_gos, T.tv, ↓reduceIte, Nat.reduceEqDiff, reduceCtorEq, Nat.reduceLeDiff, Nat.reducePow, Int.reducePow, Int.reduceToNat, Nat.reduceAdd, c2, b1, bx, l1', a5, c3', w]
      refine ⟨_, by omega, k + 1, rfl, by omega, by omega, ?_, ?_, ?_⟩
      · rw [ce']
      · rw [ren_skip hmk, us']; exact W
      · rw [ren_skip hmk, us']; exact B
    · have c3' : ¬ (c.to : Int) = 0 := by omega
      have hmk : m k = true := (mto k c hck).1 c3
      have us' : usum m r (k + 1) = usum m r k + c0.size := by rw [us, if_pos hmk]
      have ce' : cnt m (k + 1) = cnt m k + 1 := by rw [ce, if_pos (.inr hmk)]
      have ule : usum m r (k + 1) ≤ 16386 := by
        unfold usum
        have h1 := keepB_le (m := m) (r.take (k + 1 - 1)) 1
        have h2 : wsum r = wsum (r.take (k + 1 - 1)) + wsum (r.drop (k + 1 - 1)) := by unfold wsum; rw [← sumF_app, List.take_append_drop]
        have h3 : wsum s1.old = 2 + wsum r := by rw [hr]; unfold wsum; rw [sumF_cons]; rfl
        omega
      simp (disch := first | omega | assumption) only [C.h_Major_gos, T.tv, ↓reduceIte, Nat.reduceEqDiff, reduceCtorEq, Nat.reduceLeDiff, Nat.reducePow, Int.reducePow, Int.reduceToNat, Nat.reduceAdd, c2, b1, bx, l1', a5, c3']
      refine eff_store1_z T.zr_51 rfl rfl rfl rfl rfl a5 z5 ?_
      have S3 := W.rep.oldc (c' := { c with to := cnt m k }) (v := .int .u32 (cnt m k : Int)) hrk (j := 5) (by decide) rfl
      have e3 : ({ s with old := (ren m k s.old).set k { c with to := cnt m k }, used := usum m r k } : St) = { s with old := ren m (k + 1) s.old, used := usum m r k } := by rw [ren_step hck hmk]
      have W3 := W.trans S3
      have B3 := B.stp S3 Pk.refl
      simp only [e3] at W3 B3
      clear S3 W B bx l1' a5 z5
      generalize setAt hc1 ⟨p1.O, k * 7 + 5, none⟩ (.int .u32 (cnt m k : Int)) = h2 at *
      have wc : IntKind.u32.wrap ((cnt m k : Int) + 1) = ((cnt m (k + 1) : Nat) : Int) := by rw [ce', wrap_u32 (by omega) (by omega)]; omega
      have bx := B3.get
      have l1' : cellAt h2 ⟨p1.H, 1, none⟩ = some (.slice (some ⟨p1.O, 0, none⟩) s.old.length p1.oc) := by have := W3.rep.h1; rw [show ({ s with old := ren m (k + 1) s.old, used := usum m r k } : St).old.length = s.old.length from ren_len] at this; exact this
      have l2 : cellAt h2 ⟨p1.H, 2, none⟩ = some (.int .i64 (usum m r k : Int)) := W3.rep.h2
      have z2 : frozenAt h2 ⟨p1.H, 2, none⟩ = false := W3.rep.hz 2
      have hck2 : (ren m (k + 1) s.old)[k]? = some { c with to := cnt m k } := by rw [ren_get, hck]; simp [hmk]
      have lk : look { s with old := ren m (k + 1) s.old, used := usum m r k } k = some { c with to := cnt m k } := by unfold look; rw [if_pos (by omega)]; exact hck2
      have hcs : ({ c with to := cnt m k } : CP).size = c0.size := by rw [hcc]; rfl
      have A := size_any W3.rep lk (by rw [hcs]; omega)
      have ea : adrB p1 k = p1.O := by unfold adrB; rw [if_pos (by omega)]
      have eo : adrO k = k * 7 := by unfold adrO; rw [if_pos (by omega)]
      rw [ea, eo, hcs] at A
      have w2 : IntKind.i64.wrap ((usum m r k : Int) + (c0.size : Int)) = ((usum m r (k + 1) : Nat) : Int) := by rw [us', wrap_i64 (by omega) (by omega)]; omega
      simp (disch := first | omega | assumption) only [C.h_Major_gos, T.tv, ↓reduceIte, Nat.reduceEqDiff, reduceCtorEq, Nat.reduceLeDiff, Nat.reducePow, Int.reducePow, Int.reduceToNat, Nat.reduceAdd, c2, b1, bx, l1', l2, wc]
      refine eff_callF rfl (A.mono ?_)
      rintro v1 h9 ⟨rfl, rfl⟩
      simp (disch := first | omega | assumption) only [C.h_Major_gos, T.tv, ↓reduceIte, Nat.reduceEqDiff, reduceCtorEq, Nat.reduceLeDiff, Nat.reducePow, Int.reducePow, Int.reduceToNat, Nat.reduceAdd, c2, b1, bx, l1', l2, w2]
      refine eff_store1_z T.zr_3 rfl rfl rfl rfl rfl l2 z2 ?_
      have S4 := W3.rep.used (usum m r (k + 1))
      have W4 := W3.trans S4
      have B4 := B3.stp S4 Pk.refl
      simp (disch := first | omega | assumption) only [C.h_Major_gos, T.tv, ↓reduceIte, Nat.reduceEqDiff, reduceCtorEq, Nat.reduceLeDiff, Nat.reducePow, Int.reducePow, Int.reduceToNat, Nat.reduceAdd, w]
      exact ⟨_, by omega, k + 1, rfl, by omega, by omega, rfl, W4, B4⟩
  · have c2 : ¬ (k : Int) < (s.old.length : Int) := by omega
    have ek : k = s1.old.length := by omega
    subst ek
    have es := K.eq
    have s0to : ∀ c, s.old[0]? = some c → c = nul := by
      intro c hc
      obtain ⟨c0, h1, h2, h3⟩ := K.oc 0 c hc
      rw [I1.o0] at h1; cases h1
      have : c.to = 0 := by
        rcases h3 with h3 | h3
        · exact h3
        · exact h3.1
      rw [h2, this]; rfl
    have m0 : m 0 = false := by
      cases hx : m 0 with
      | false => rfl
      | true => exact absurd rfl ((dn 0).1 hx).1
    have hz0 : s.old[0]? = some nul := by
      have h0 : s.old[0]? = some (s.old[0]'(by omega)) := by simp
      rw [h0, s0to _ h0]
    have mlt : ∀ k, m k = true → k ≠ 0 ∧ k < s1.old.length := fun k hk => by
      have h1 := (dn k).1 hk
      refine ⟨h1.1, ?_⟩
      have v := h1.2.valid I1
      rcases v with v | v
      · exact v.2
      · have := v.2; rw [y1] at this; simp at this; have := v.1; omega
    have hzr : (ren m s1.old.length s.old)[0]? = some nul := by rw [ren_get, hz0]; simp [m0]
    have N : TN s1 { s with old := ren m s1.old.length s.old, used := usum m r s1.old.length } m := by
      refine ⟨by rw [es], by rw [es], by rw [show ({ s with old := ren m s1.old.length s.old, used := usum m r s1.old.length } : St).old.length = s.old.length from ren_len]; exact ol, ?_, ?_, ?_, ?_, mlt⟩
      · rintro x (rfl | hx)
        · exact ⟨nul, hzr, rfl⟩
        · have hl := (mlt x hx).2
          have h0 : s.old[x]? = some (s.old[x]'(by omega)) := by simp
          refine ⟨_, by show (ren m s1.old.length s.old)[x]? = _; rw [ren_get, h0]; rfl, ?_⟩
          simp only [hl, hx, and_self, if_true]
      · intro k c hk
        have hk : (ren m s1.old.length s.old)[k]? = some c := hk
        rw [ren_get] at hk
        cases hx : s.old[k]? with
        | none => rw [hx] at hk; cases hk
        | some d =>
          rw [hx] at hk
          have hkl := (List.getElem?_eq_some_iff.1 hx).1
          simp only [Option.map_some, Option.some.injEq] at hk
          obtain ⟨c0, h1, h2, _⟩ := K.oc k d hx
          have ht := mto k d hx
          by_cases hmk : m k = true
          · rw [if_pos ⟨by omega, hmk⟩] at hk
            subst hk
            refine ⟨c0, h1, by rw [h2], by rw [h2], ⟨fun _ => hmk, fun _ h => (mlt k hmk).1 (cnt_zero.1 h)⟩⟩
          · rw [if_neg (by simp [hmk])] at hk
            subst hk
            exact ⟨c0, h1, by rw [h2], by rw [h2], ht⟩
      · intro x hx
        by_cases e : x = 0
        · exact .inl e
        · exact .inr ((dn x).2 ⟨e, .root hx⟩)
      · intro k c hk hmk x hx
        by_cases e : x = 0
        · exact .inl e
        · have h1 := (dn k).1 hmk
          exact .inr ((dn x).2 ⟨e, .step h1.2 h1.1 (by unfold look; rw [if_pos (by have := (mlt k hmk).2; omega)]; exact hk) hx⟩)
    simp (disch := first | omega | assumption) only [C.h_Major_gos, T.tv, ↓reduceIte, Nat.reduceEqDiff, reduceCtorEq, Nat.reduceLeDiff, Nat.reducePow, Int.reducePow, Int.reduceToNat, Nat.reduceAdd, c2, bx, l1']
    refine Major_t1 W B Pk1.1 I1 N hzr fun v h' p' σ hσ S' hp' => ?_
    have hold : (((ren m s1.old.length s.old).set 0 { nul with to := 1 }).filter goes).map unto = nul :: keepB m 1 r := by
      obtain ⟨r2, hr2⟩ : ∃ r2, ren m s1.old.length s.old = nul :: r2 := by
        cases hx : ren m s1.old.length s.old with
        | nil => rw [hx] at hzr; cases hzr
        | cons c r => rw [hx] at hzr; cases hzr; exact ⟨r, rfl⟩
      rw [hr2, List.set_cons_zero, List.filter_cons_of_pos (by rfl), List.map_cons]
      have := filt (m := m) r r2 1 (by decide) (fun j => by
        have e1 : (ren m s1.old.length s.old)[j + 1]? = r2[j]? := by rw [hr2, List.getElem?_cons_succ]
        have e2 : s1.old[j + 1]? = r[j]? := by rw [hr, List.getElem?_cons_succ]
        rw [← e1, ← e2, ren_get]
        cases hx : s.old[j + 1]? with
        | none =>
          have : s1.old.length ≤ j + 1 := by have := List.getElem?_eq_none_iff.1 hx; omega
          rw [List.getElem?_eq_none this]; rfl
        | some d =>
          have hkl := (List.getElem?_eq_some_iff.1 hx).1
          obtain ⟨c0, h1, h2, _⟩ := K.oc (j + 1) d hx
          have ht := mto (j + 1) d hx
          rw [h1]
          simp only [Option.map_some, Option.some.injEq]
          rw [Nat.add_comm 1 j]
          by_cases hmk : m (j + 1) = true
          · rw [if_pos ⟨by omega, hmk⟩, if_pos hmk, h2]
          · rw [if_neg (by simp [hmk]), if_neg hmk]
            have hz : d.to = 0 := Decidable.byContradiction fun h => hmk (ht.1 h)
            rw [h2, hz]) (fun c hc => by
        obtain ⟨j, hj⟩ := List.getElem?_of_mem hc
        have hjl := (List.getElem?_eq_some_iff.1 hj).1
        refine I1.to (j + 1) c ?_
        unfold look
        rw [if_pos (by omega), hr, List.getElem?_cons_succ]; exact hj)
      have e0 : unto { nul with to := 1 } = nul := rfl
      rw [e0, ← this]; rfl
    have hfr : s1.fresh = 0 := by have := I1.fr; rw [y1] at this; have h2 : wsum [nul] = 2 := rfl; omega
    have M : Maj s1 { s with old := (((ren m s1.old.length s.old).set 0 { nul with to := 1 }).filter goes).map unto, used := usum m r s1.old.length, roots := s1.roots.map (cnt m), RS := σ } m := by
      refine ⟨y1, f1, ?_, ?_, ?_, ?_, ?_, ?_, dn, ⟨r, hr, hold⟩, rfl, fun k c g l h1 h2 h3 h4 => hσ k c g l h1 h2 h3 h4, ?_⟩
      · show s.young = _; rw [es]; exact y1
      · show s.refers = _; rw [es]; exact f1
      · show s.fresh = _; rw [es]; exact hfr
      · show s.limit = _; rw [es]
      · show s.room = _; rw [es]
      · show s.WS = _; rw [es]
      · show usum m r s1.old.length + 2 = wsum ((((ren m s1.old.length s.old).set 0 { nul with to := 1 }).filter goes).map unto)
        rw [hold, hrl, usum_end]
        unfold wsum
        rw [sumF_cons]
        have : nul.size = 2 := rfl
        omega
    obtain ⟨m1, m2, m3⟩ := maj_law I1 S1 M
    refine ⟨p', _, S', Pk1.trans hp', m1, m2, m3, ?_, ?_⟩
    · show s.limit = _; rw [es]; exact l1
    · show s.room = _; rw [es]; exact o1
end Go.Proofs.Ytidkokdkldfglaa

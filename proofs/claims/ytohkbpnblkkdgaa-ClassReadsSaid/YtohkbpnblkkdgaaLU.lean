/- The law ClassReads: both read the same class of any bytes. -/
import Derived.Test.YtohkbpnblkkdgaaLT6
import Derived.Test.YtohkbpnblkkdgaaL9
import Derived.Test.YtohkbpnblkkdgaaCzb
namespace Go.Proofs.Ytohkbpnblkkdgaa
open Go.Vc
set_option maxRecDepth 100000
set_option linter.unusedSimpArgs false
set_option linter.unusedVariables false

theorem loopS_len {α : Type} (f : RS → α × RS) : ∀ (k : Nat) (xs : List α) (s : RS), (loopS f k xs s).1.length ≤ xs.length + k := by
  intro k
  induction k with
  | zero => intro xs s; exact Nat.le_refl _
  | succ k ih =>
    intro xs s
    rw [loopS]; split
    · simp
    · have := ih (xs ++ [(f s).1]) (f s).2
      simp only [List.length_append, List.length_singleton] at this
      omega
theorem loopS_all {α : Type} (f : RS → α × RS) (P : α → Prop) (hf : ∀ s, P (f s).1) : ∀ (k : Nat) (xs : List α) (s : RS), (∀ x ∈ xs, P x) → ∀ x ∈ (loopS f k xs s).1, P x := by
  intro k
  induction k with
  | zero => intro xs s h; exact h
  | succ k ih =>
    intro xs s h
    rw [loopS]; split
    · exact h
    · refine ih _ _ (fun x hx => ?_)
      rcases List.mem_append.1 hx with hx | hx
      · exact h x hx
      · rw [List.mem_singleton.1 hx]; exact hf s
theorem attrsR_inv {σ : Type} {p : List Cst} {l : List UInt8} {take : Take σ} (P : σ → Prop) (ht : ∀ name q n x s y, P x → take name q n x s = some y → P y.1) : ∀ (k : Nat) (x : σ) (s : RS), P x → P (attrsR p l take k x s).1 := by
  intro k
  induction k with
  | zero => intro x s h; exact h
  | succ k ih =>
    intro x s h
    by_cases he : s.e = 0
    · rw [attrsR_step he]
      split
      · exact h
      · split
        · exact ih _ _ h
        · next y hy => exact ih _ _ (ht _ _ _ _ _ _ h hy)
    · rw [attrsR_bad he]; exact h
theorem codeR_hs (p : List Cst) (l : List UInt8) (s : RS) : (codeR p l s).1.hs.length ≤ 65535 := by
  unfold codeR
  simp only
  refine Nat.le_trans (loopS_len _ _ _ _) ?_
  have := fun (s : RS) => @numS_lt l 2 s
  simp only [Nat.reducePow] at this
  simp only [List.length_nil, Nat.zero_add]
  exact Nat.le_of_lt_succ (this _)
theorem methodR_hs (p : List Cst) (l : List UInt8) (s : RS) : (methodR p l s).1.code.hs.length ≤ 65535 := by
  unfold methodR
  simp only
  refine attrsR_inv (σ := Bool × Cde) (fun x : Bool × Cde => x.2.hs.length ≤ 65535) ?_ _ _ _ (by simp [cde0])
  intro name q n x s y hx hy
  unfold cdT at hy
  split at hy
  · simp only [Option.some.injEq] at hy
    subst hy
    exact codeR_hs _ _ _
  · cases hy
theorem loopR_len (l : List UInt8) (n : Nat) : ∀ (k : Nat) (cs : List Cst) (s : RS), (loopR l n k cs s).1.length ≤ max cs.length (n + 1) := by
  intro k
  induction k with
  | zero => intro cs s; show cs.length ≤ _; omega
  | succ k ih =>
    intro cs s
    rw [loopR]; split
    · next h =>
      split
      · refine Nat.le_trans (ih _ _) ?_
        simp only [List.length_append, List.length_singleton]; omega
      · refine Nat.le_trans (ih _ _) ?_
        simp only [List.length_append, List.length_singleton]; omega
    · show cs.length ≤ _; omega
theorem poolR_len (l : List UInt8) (s : RS) : (poolR l s).1.length ≤ 65536 := by
  unfold poolR
  have h := @numS_lt l 2 s
  simp only [Nat.reducePow] at h
  refine Nat.le_trans (loopR_len _ _ _ _ _) ?_
  simp only [List.length_singleton]; omega
theorem preR_ok (l : List UInt8) : RSok l (preR l).2.2 := by
  have h0 : RSok l ⟨0, 0, 0⟩ := ⟨Nat.zero_le _, Nat.zero_le _⟩
  by_cases h4 : 4 ≤ l.length
  · unfold preR
    dsimp only
    have h1 : RSok l (if (numS l 4 ⟨0, 0, 0⟩).1 = 3405691582 then (numS l 4 ⟨0, 0, 0⟩).2 else failS 3 0 (numS l 4 ⟨0, 0, 0⟩).2) := RSok.ite h0.num (h0.num.fail (Nat.zero_le _))
    exact RSok.ite h1.num.num (h1.num.num.fail h4)
  · have hn : numS l 4 ⟨0, 0, 0⟩ = (0, ⟨0, 1, l.length⟩) := numS_end (by omega)
    have hf : failS 3 0 ⟨0, 1, l.length⟩ = ⟨0, 1, l.length⟩ := failS_e (by simp)
    have hb : RSok l ⟨0, 1, l.length⟩ := ⟨Nat.zero_le _, Nat.le_refl _⟩
    unfold preR
    dsimp only
    rw [hn]
    simp only [hf, ite_self]
    rw [numS_e (s := ⟨0, 1, l.length⟩) (by simp)]
    rw [numS_e (s := ⟨0, 1, l.length⟩) (by simp), failS_e (s := ⟨0, 1, l.length⟩) (by simp), ite_self]
    exact hb
structure ClsLen (c : Cls) : Prop where
  p : c.pool.length ≤ 65536
  i : c.ifs.length ≤ 65536
  f : c.fields.length ≤ 65536
  m : c.methods.length ≤ 65536
  h : ∀ x ∈ c.methods, x.code.hs.length ≤ 65536
section
variable (p : List Cst) (l : List UInt8) (mi ma : Nat) (s : RS)
theorem restR_i : ∃ k s', (restR p l mi ma s).1.ifs = (loopS (numS l 2) (numS l 2 k).1 [] s').1 := ⟨_, _, rfl⟩
theorem restR_f : ∃ k s', (restR p l mi ma s).1.fields = (loopS (fieldR p l) (numS l 2 k).1 [] s').1 := ⟨_, _, rfl⟩
theorem restR_m : ∃ k s', (restR p l mi ma s).1.methods = (loopS (methodR p l) (numS l 2 k).1 [] s').1 := by
  unfold restR
  dsimp only
  generalize loopS (fieldR p l) _ _ _ = F
  exact ⟨F.2, (numS l 2 F.2).2, rfl⟩
theorem loopS_65536 {α : Type} (f : RS → α × RS) (k s' : RS) : (loopS f (numS l 2 k).1 [] s').1.length ≤ 65536 := by
  have hn := @numS_lt l 2 k
  simp only [Nat.reducePow] at hn
  have h := loopS_len f (numS l 2 k).1 [] s'
  simp only [List.length_nil, Nat.zero_add] at h
  omega
theorem restR_len (hp : p.length ≤ 65536) : ClsLen (restR p l mi ma s).1 := by
  obtain ⟨k1, s1, e1⟩ := restR_i p l mi ma s
  obtain ⟨k2, s2, e2⟩ := restR_f p l mi ma s
  obtain ⟨k3, s3, e3⟩ := restR_m p l mi ma s
  refine ⟨hp, ?_, ?_, ?_, ?_⟩
  · rw [e1]; exact loopS_65536 l _ _ _
  · rw [e2]; exact loopS_65536 l _ _ _
  · rw [e3]; exact loopS_65536 l _ _ _
  · rw [e3]
    intro x hx
    exact Nat.le_trans (loopS_all (methodR p l) (fun x : Mth => x.code.hs.length ≤ 65535) (fun s => methodR_hs p l s) _ _ _ (fun x hx => by cases hx) x hx) (by decide)
end
theorem cls0_len : ClsLen cls0 := ⟨by simp [cls0], by simp [cls0], by simp [cls0], by simp [cls0], by simp [cls0]⟩
theorem finC_len {x : Cls × RS} (h : ClsLen x.1) : ClsLen (finC x).1 := by
  unfold finC; split
  · exact cls0_len
  · exact h
theorem readR_len (l : List UInt8) : ClsLen (readR l).1 := finC_len (restR_len _ _ _ _ _ (poolR_len _ _))
theorem ClsC.sl {h : Heap} {c : Cls} {vp vi vf vm : Value} (H : ClsC h c vp vi vf vm) : ∃ a1 c1 a2 c2 a3 c3 a4 c4, vp = .slice a1 c.pool.length c1 ∧ vi = .slice a2 c.ifs.length c2 ∧ vf = .slice a3 c.fields.length c3 ∧ vm = .slice a4 c.methods.length c4 := by
  obtain ⟨_, a1, c1, e1, _⟩ := H.p
  obtain ⟨_, a2, c2, e2, _⟩ := H.i
  obtain ⟨_, a3, c3, e3, _⟩ := H.f
  obtain ⟨_, _, ⟨_, a4, c4, e4, _⟩, _⟩ := H.m
  exact ⟨a1, c1, a2, c2, a3, c3, a4, c4, e1, e2, e3, e4⟩
set_option maxHeartbeats 4000000 in
theorem classReads_any (l : List UInt8) (h : Heap) (hl : l.length ≤ 9223372036854775807) : HCalls Try.prog 6 #[str l] h fun v h' => Ext h h' ∧ v = .bool true := by
  refine C.law3_ClassReads_calls (args := [str l]) rfl ?_
  by_cases hb : 32768 < l.length
  · have hb' : (32768 : Int) < (l.length : Int) := by omega
    simp (disch := first | omega | assumption) only [C.law3_ClassReads_gos, vs, Go.Vc.vk, T.ts, ↓reduceIte, Nat.reduceEqDiff, reduceCtorEq, Nat.reduceLeDiff, Nat.reducePow, Int.reducePow, Int.reduceToNat, Nat.reduceAdd, hb']
    exact Ext.refl _
  have hb' : ¬ (32768 : Int) < (l.length : Int) := by omega
  have hl2 : l.length ≤ 1073741824 := by omega
  simp (disch := first | omega | assumption) only [C.law3_ClassReads_gos, vs, Go.Vc.vk, T.ts, ↓reduceIte, Nat.reduceEqDiff, reduceCtorEq, Nat.reduceLeDiff, Nat.reducePow, Int.reducePow, Int.reduceToNat, Nat.reduceAdd, hb']
  refine eff_call_of ?_
  simp (disch := first | omega | assumption) only [C.law3_ClassReads_gos, vs, Go.Vc.vk, T.ts, ↓reduceIte, Nat.reduceEqDiff, reduceCtorEq, Nat.reduceLeDiff, Nat.reducePow, Int.reducePow, Int.reduceToNat, Nat.reduceAdd]
  refine (read_any l h hl2).mono ?_
  rintro _ h1 ⟨x1, vp, vi, vf, vm, rfl, C1⟩
  obtain ⟨X, hX⟩ : ∃ X, X = readR l := ⟨_, rfl⟩
  have hlen := readR_len l
  have hQ : readQ l = X := by rw [hX]; exact read_RQ (preR_ok l).p
  rw [← hX] at C1 hlen ⊢
  obtain ⟨a1, c1, a2, c2, a3, c3, a4, c4, rfl, rfl, rfl, rfl⟩ := ClsC.sl C1
  simp only [ClsV]
  simp (disch := first | omega | assumption) only [C.law3_ClassReads_gos, vs, Go.Vc.vk, T.ts, ↓reduceIte, Nat.reduceEqDiff, reduceCtorEq, Nat.reduceLeDiff, Nat.reducePow, Int.reducePow, Int.reduceToNat, Nat.reduceAdd]
  refine eff_alloc_z T.zr_43 ?_
  simp (disch := first | omega | assumption) only [C.law3_ClassReads_gos, vs, Go.Vc.vk, T.ts, ↓reduceIte, Nat.reduceEqDiff, reduceCtorEq, Nat.reduceLeDiff, Nat.reducePow, Int.reducePow, Int.reduceToNat, Nat.reduceAdd]
  refine eff_store_new_z T.zr_43 rfl rfl rfl (by simp [Value.cells, oneCell, str]) rfl ?_
  intro h2 x2 hlt2 hrd2 b2
  have C2 := ClsC.ext C1 x2
  simp (disch := first | omega | assumption) only [C.law3_ClassReads_gos, vs, Go.Vc.vk, T.ts, ↓reduceIte, Nat.reduceEqDiff, reduceCtorEq, Nat.reduceLeDiff, Nat.reducePow, Int.reducePow, Int.reduceToNat, Nat.reduceAdd]
  refine eff_call_of ?_
  simp (disch := first | omega | assumption) only [C.law3_ClassReads_gos, vs, Go.Vc.vk, T.ts, ↓reduceIte, Nat.reduceEqDiff, reduceCtorEq, Nat.reduceLeDiff, Nat.reducePow, Int.reducePow, Int.reduceToNat, Nat.reduceAdd]
  refine (rclass_any l h2 hl2).mono ?_
  rw [hQ]
  rintro _ h3 ⟨x3, up, ui, uf, um, rfl, C3⟩
  have C23 := ClsC.ext C2 x3
  have b3 := Fr_blk x3 b2 id
  obtain ⟨p1, q1, p2, q2, p3, q3, p4, q4, rfl, rfl, rfl, rfl⟩ := ClsC.sl C3
  simp only [ClsV]
  simp (disch := first | omega | assumption) only [C.law3_ClassReads_gos, vs, Go.Vc.vk, T.ts, ↓reduceIte, Nat.reduceEqDiff, reduceCtorEq, Nat.reduceLeDiff, Nat.reducePow, Int.reducePow, Int.reduceToNat, Nat.reduceAdd]
  refine eff_alloc_z T.zr_43 ?_
  simp (disch := first | omega | assumption) only [C.law3_ClassReads_gos, vs, Go.Vc.vk, T.ts, ↓reduceIte, Nat.reduceEqDiff, reduceCtorEq, Nat.reduceLeDiff, Nat.reducePow, Int.reducePow, Int.reduceToNat, Nat.reduceAdd]
  refine eff_store_new_z T.zr_43 rfl rfl rfl (by simp [Value.cells, oneCell, str]) rfl ?_
  intro h4 x4 hlt4 hrd4 b4
  have C24 := ClsC.ext C23 x4
  have C34 := ClsC.ext C3 x4
  have b24 := Fr_blk x4 b3 id
  have l1 := ld_agg T.ag_43 (Rd_block (vs := ClsV X.1 (.slice a1 X.1.pool.length c1) (.slice a2 X.1.ifs.length c2) (.slice a3 X.1.fields.length c3) (.slice a4 X.1.methods.length c4)) b24) rfl
  have l2 := ld_agg T.ag_43 (Rd_block (vs := ClsV X.1 (.slice p1 X.1.pool.length q1) (.slice p2 X.1.ifs.length q2) (.slice p3 X.1.fields.length q3) (.slice p4 X.1.methods.length q4)) b4) rfl
  simp only [ClsV] at l1 l2
  simp (disch := first | omega | assumption) only [C.law3_ClassReads_gos, vs, Go.Vc.vk, T.ts, ↓reduceIte, Nat.reduceEqDiff, reduceCtorEq, Nat.reduceLeDiff, Nat.reducePow, Int.reducePow, Int.reduceToNat, Nat.reduceAdd, l1, l2]
  refine eff_call_of ?_
  simp (disch := first | omega | assumption) only [C.law3_ClassReads_gos, vs, Go.Vc.vk, T.ts, ↓reduceIte, Nat.reduceEqDiff, reduceCtorEq, Nat.reduceLeDiff, Nat.reducePow, Int.reducePow, Int.reduceToNat, Nat.reduceAdd]
  have hp := hlen.p
  have hi := hlen.i
  have hf := hlen.f
  have hm := hlen.m
  refine (sameClass_any X.1 _ _ _ _ _ _ _ _ h4 C24 C34 (by omega) (by omega) (by omega) (by omega) (fun m hm => by have := hlen.h m hm; omega)).mono ?_
  rintro _ h5 ⟨x5, rfl⟩
  simp (disch := first | omega | assumption) only [C.law3_ClassReads_gos, vs, Go.Vc.vk, T.ts, ↓reduceIte, Nat.reduceEqDiff, reduceCtorEq, Nat.reduceLeDiff, Nat.reducePow, Int.reducePow, Int.reduceToNat, Nat.reduceAdd]
  exact (((x1.trans x2).trans x3).trans x4).trans x5
end Go.Proofs.Ytohkbpnblkkdgaa

/- The decoder of instructions: numbers with a sign, switches. -/
import Derived.Test.YtjpcpkhegjndeaaND1
import Derived.Test.YtjpcpkhegjndeaaR2
import Derived.Test.YtjpcpkhegjndeaaCg
namespace Go.Proofs.Ytjpcpkhegjndeaa
open Go.Vc
set_option maxRecDepth 100000
set_option linter.unusedSimpArgs false
set_option linter.unusedVariables false

set_option maxHeartbeats 1000000 in
theorem sign_any (x n : Nat) (hn : n = 1 ∨ n = 2 ∨ n = 4) (hx : x < 256 ^ n) (h : Heap) :
    HCalls Try.prog 45 #[.int .i64 x, .int .i64 n] h fun v h' => h' = h ∧ v = .int .i64 (sgnN x n) := by
  refine C.code_sign_calls (args := [.int .i64 x, .int .i64 n]) rfl ?_
  rcases hn with rfl | rfl | rfl
  · have hx : x < 256 := hx
    rw [show ((1 : Nat) : Int) = 1 from rfl]
    by_cases g : 128 ≤ x
    · have g' : (128 : Int) ≤ x := by omega
      have e : sgnN x 1 = (x : Int) - 256 := by unfold sgnN; rw [if_pos (by simpa using g)]; rfl
      rw [e]
      simp (disch := first | omega | assumption) only [C.code_sign_gos, vs, Go.Vc.vk, T.ts, ↓reduceIte, Nat.reduceEqDiff, reduceCtorEq, Nat.reduceLeDiff, Nat.reducePow, Int.reducePow, Int.reduceToNat, Nat.reduceAdd, g', Int.reduceMul, Int.reduceToNat, Int.reducePow, Int.reduceSub, Nat.reduceLeDiff]
    · have g' : ¬ (128 : Int) ≤ x := by omega
      have e : sgnN x 1 = (x : Int) := by unfold sgnN; rw [if_neg (by simpa using g)]
      rw [e]
      simp (disch := first | omega | assumption) only [C.code_sign_gos, vs, Go.Vc.vk, T.ts, ↓reduceIte, Nat.reduceEqDiff, reduceCtorEq, Nat.reduceLeDiff, Nat.reducePow, Int.reducePow, Int.reduceToNat, Nat.reduceAdd, g', Int.reduceMul, Int.reduceToNat, Int.reducePow, Int.reduceSub, Nat.reduceLeDiff]
  · have hx : x < 65536 := hx
    rw [show ((2 : Nat) : Int) = 2 from rfl]
    by_cases g : 32768 ≤ x
    · have g' : (32768 : Int) ≤ x := by omega
      have e : sgnN x 2 = (x : Int) - 65536 := by unfold sgnN; rw [if_pos (by simpa using g)]; rfl
      rw [e]
      simp (disch := first | omega | assumption) only [C.code_sign_gos, vs, Go.Vc.vk, T.ts, ↓reduceIte, Nat.reduceEqDiff, reduceCtorEq, Nat.reduceLeDiff, Nat.reducePow, Int.reducePow, Int.reduceToNat, Nat.reduceAdd, g', Int.reduceMul, Int.reduceToNat, Int.reducePow, Int.reduceSub, Nat.reduceLeDiff]
    · have g' : ¬ (32768 : Int) ≤ x := by omega
      have e : sgnN x 2 = (x : Int) := by unfold sgnN; rw [if_neg (by simpa using g)]
      rw [e]
      simp (disch := first | omega | assumption) only [C.code_sign_gos, vs, Go.Vc.vk, T.ts, ↓reduceIte, Nat.reduceEqDiff, reduceCtorEq, Nat.reduceLeDiff, Nat.reducePow, Int.reducePow, Int.reduceToNat, Nat.reduceAdd, g', Int.reduceMul, Int.reduceToNat, Int.reducePow, Int.reduceSub, Nat.reduceLeDiff]
  · have hx : x < 4294967296 := hx
    rw [show ((4 : Nat) : Int) = 4 from rfl]
    by_cases g : 2147483648 ≤ x
    · have g' : (2147483648 : Int) ≤ x := by omega
      have e : sgnN x 4 = (x : Int) - 4294967296 := by unfold sgnN; rw [if_pos (by simpa using g)]; rfl
      rw [e]
      simp (disch := first | omega | assumption) only [C.code_sign_gos, vs, Go.Vc.vk, T.ts, ↓reduceIte, Nat.reduceEqDiff, reduceCtorEq, Nat.reduceLeDiff, Nat.reducePow, Int.reducePow, Int.reduceToNat, Nat.reduceAdd, g', Int.reduceMul, Int.reduceToNat, Int.reducePow, Int.reduceSub, Nat.reduceLeDiff]
    · have g' : ¬ (2147483648 : Int) ≤ x := by omega
      have e : sgnN x 4 = (x : Int) := by unfold sgnN; rw [if_neg (by simpa using g)]
      rw [e]
      simp (disch := first | omega | assumption) only [C.code_sign_gos, vs, Go.Vc.vk, T.ts, ↓reduceIte, Nat.reduceEqDiff, reduceCtorEq, Nat.reduceLeDiff, Nat.reducePow, Int.reducePow, Int.reduceToNat, Nat.reduceAdd, g', Int.reduceMul, Int.reduceToNat, Int.reducePow, Int.reduceSub, Nat.reduceLeDiff]
theorem sgnN_fit (x n : Nat) (hn : n = 1 ∨ n = 2 ∨ n = 4) (hx : x < 256 ^ n) : -2147483648 ≤ sgnN x n ∧ sgnN x n < 2147483648 := by
  unfold sgnN
  rcases hn with rfl | rfl | rfl
  · have hx : x < 256 := hx
    split <;> simp <;> omega
  · have hx : x < 65536 := hx
    split <;> simp <;> omega
  · have hx : x < 4294967296 := hx
    have : (128 * 256 ^ (4 - 1) : Nat) = 2147483648 := rfl
    have h2 : ((256 ^ 4 : Nat) : Int) = 4294967296 := rfl
    rw [h2]
    split <;> omega
theorem sgnD_fit (l : List UInt8) (n : Nat) (s : RS) (hn : n = 1 ∨ n = 2 ∨ n = 4) : -2147483648 ≤ (sgnD l n s).1 ∧ (sgnD l n s).1 < 2147483648 := sgnN_fit _ n hn numS_lt

section
variable {h : Heap} {g : Nat} {l : List UInt8} {s : RS}
set_option maxHeartbeats 1000000 in
theorem dsgn_any (n : Nat) (hn : n = 1 ∨ n = 2 ∨ n = 4) (hl : l.length ≤ 1073741824) (H : Rdr h g l s) :
    HCalls Try.prog 36 #[.agg #[.pointer (some ⟨g, 0, none⟩)], .int .i64 n] h fun v h' => Fr (fun k => k = g) h h' ∧ Rdr h' g l (sgnD l n s).2 ∧ v = .int .i64 (sgnD l n s).1 := by
  refine C.dec_signed_calls (args := [.agg #[.pointer (some ⟨g, 0, none⟩)], .int .i64 n]) rfl ?_
  have hgl := H.lt
  simp (disch := first | omega | assumption) only [C.dec_signed_gos, vs, Go.Vc.vk, T.ts, ↓reduceIte, Nat.reduceEqDiff, reduceCtorEq, Nat.reduceLeDiff, Nat.reducePow, Int.reducePow, Int.reduceToNat, Nat.reduceAdd]
  refine eff_box ?_
  have E := Ext.push h (.cells #[.pointer (some ⟨g, 0, none⟩)] 52)
  have H1 := H.fr E id
  have c0 : cellAt (h.push (.cells #[.pointer (some ⟨g, 0, none⟩)] 52)) ⟨h.size, 0, none⟩ = some (.pointer (some ⟨g, 0, none⟩)) := by rw [cellAt_push_new]; rfl
  simp (disch := first | omega | assumption) only [C.dec_signed_gos, vs, Go.Vc.vk, T.ts, ↓reduceIte, Nat.reduceEqDiff, reduceCtorEq, Nat.reduceLeDiff, Nat.reducePow, Int.reducePow, Int.reduceToNat, Nat.reduceAdd, c0]
  generalize h.push (.cells #[.pointer (some ⟨g, 0, none⟩)] 52) = h1 at *
  refine eff_call_of ?_
  simp (disch := first | omega | assumption) only [C.dec_signed_gos, vs, Go.Vc.vk, T.ts, ↓reduceIte, Nat.reduceEqDiff, reduceCtorEq, Nat.reduceLeDiff, Nat.reducePow, Int.reducePow, Int.reduceToNat, Nat.reduceAdd]
  refine (num_any n hl (by omega) H1).mono ?_
  rintro v2 h2 ⟨f2, r2, rfl⟩
  simp (disch := first | omega | assumption) only [C.dec_signed_gos, vs, Go.Vc.vk, T.ts, ↓reduceIte, Nat.reduceEqDiff, reduceCtorEq, Nat.reduceLeDiff, Nat.reducePow, Int.reducePow, Int.reduceToNat, Nat.reduceAdd]
  refine eff_call_of ?_
  simp (disch := first | omega | assumption) only [C.dec_signed_gos, vs, Go.Vc.vk, T.ts, ↓reduceIte, Nat.reduceEqDiff, reduceCtorEq, Nat.reduceLeDiff, Nat.reducePow, Int.reducePow, Int.reduceToNat, Nat.reduceAdd]
  refine (sign_any _ n hn numS_lt h2).mono ?_
  rintro v3 h3 ⟨rfl, rfl⟩
  simp (disch := first | omega | assumption) only [C.dec_signed_gos, vs, Go.Vc.vk, T.ts, ↓reduceIte, Nat.reduceEqDiff, reduceCtorEq, Nat.reduceLeDiff, Nat.reducePow, Int.reducePow, Int.reduceToNat, Nat.reduceAdd]
  exact ⟨Fr.trans E f2 (fun _ _ h => h.elim) (fun _ _ h => h), r2, rfl⟩
end

/-- An instruction under way: its block, its lists. -/
def XR (h : Heap) (base q : Nat) (x : In) : Prop := ∃ vk vt, h[q]? = some (.cells (InV x vk vt).toArray 35 (0, 0)) ∧ Own h base 3 1 vk x.keys.length (intsV x.keys) ∧ Own h base 3 1 vt x.tgts.length (intsV x.tgts) ∧ ∀ k, vk.ownBlock = some k → ¬ vt.ownBlock = some k
theorem XR.fr {S : Nat → Prop} {h h' : Heap} {base q : Nat} {x : In} (H : XR h base q x) (hf : Fr S h h') (hq : ¬ S q) (hS : ∀ k, k < h.size → S k → (∃ cs t fz, h[k]? = some (.cells cs t fz) ∧ t ≠ 3)) : XR h' base q x := by
  obtain ⟨vk, vt, h1, h2, h3, h4⟩ := H
  refine ⟨vk, vt, Fr_blk hf h1 hq, h2.fr hf ?_, h3.fr hf ?_, h4⟩
  · intro k hk hs
    obtain ⟨cs, t, fz, e1, e2⟩ := hS k (h2.lt k hk).2 hs
    exact Own_ne h2 e1 (Ne.symm e2) hk
  · intro k hk hs
    obtain ⟨cs, t, fz, e1, e2⟩ := hS k (h3.lt k hk).2 hs
    exact Own_ne h3 e1 (Ne.symm e2) hk
theorem XR.lt {h : Heap} {base q : Nat} {x : In} (H : XR h base q x) : q < h.size := by
  obtain ⟨vk, vt, h1, _⟩ := H
  exact (Array.getElem?_eq_some_iff.1 h1).1

/-- What stands where an instruction is read: the reader, the instruction, the decoder's box. -/
structure DS (h h' : Heap) (g q bd : Nat) (l : List UInt8) (x : In) (s : RS) : Prop where
  fr : Fr (fun k => k = g ∨ k = q) h h'
  rd : Rdr h' g l s
  xr : XR h' h.size q x
  bx : h'[bd]? = some (.cells #[.pointer (some ⟨g, 0, none⟩)] 52 (0, 0))
theorem Rdr.notint {h : Heap} {g : Nat} {l : List UInt8} {s : RS} (H : Rdr h g l s) : ∃ cs t fz, h[g]? = some (.cells cs t fz) ∧ t ≠ 3 := ⟨_, _, _, H.1, by decide⟩
section
variable {h h1 h2 : Heap} {g q bd : Nat} {l : List UInt8} {x : In} {s s' : RS}
theorem DS.gq (H : DS h h1 g q bd l x s) : q ≠ g ∧ bd ≠ g ∧ bd ≠ q := by
  obtain ⟨vk, vt, k1, _⟩ := H.xr
  have k2 := H.rd.1
  have k3 := H.bx
  refine ⟨?_, ?_, ?_⟩
  · intro e; subst e; rw [k1] at k2; cases k2
  · intro e; subst e; rw [k3] at k2; cases k2
  · intro e; subst e; rw [k3] at k1; cases k1
/-- After the reader went on. -/
theorem DS.step (H : DS h h1 g q bd l x s) (f : Fr (fun k => k = g) h1 h2) (r : Rdr h2 g l s') : DS h h2 g q bd l x s' := by
  obtain ⟨e1, e2, _⟩ := H.gq
  refine ⟨Fr.trans H.fr f (fun _ _ h => h) (fun _ _ h => Or.inl h), r, H.xr.fr f e1 ?_, Fr_blk f H.bx e2⟩
  intro k hk hs
  subst hs
  exact H.rd.notint
/-- Cells of the instruction. -/
theorem DS.cells (H : DS h h1 g q bd l x s) : cellAt h1 ⟨q, 0, none⟩ = some (.int .i64 x.at') ∧ cellAt h1 ⟨q, 1, none⟩ = some (.int .u8 (x.op : Int)) ∧ cellAt h1 ⟨q, 2, none⟩ = some (.bool x.wide) ∧ cellAt h1 ⟨q, 3, none⟩ = some (.int .i64 x.A) ∧ cellAt h1 ⟨q, 4, none⟩ = some (.int .i64 x.B) ∧ cellAt h1 ⟨q, 5, none⟩ = some (.int .i64 x.low) ∧ cellAt h1 ⟨bd, 0, none⟩ = some (.pointer (some ⟨g, 0, none⟩)) ∧ ld Try.prog 52 ⟨bd, 0, none⟩ h1 = some (.agg #[.pointer (some ⟨g, 0, none⟩)]) := by
  obtain ⟨vk, vt, k1, _⟩ := H.xr
  refine ⟨by rw [cellAt_of k1]; rfl, by rw [cellAt_of k1]; rfl, by rw [cellAt_of k1]; rfl, by rw [cellAt_of k1]; rfl, by rw [cellAt_of k1]; rfl, by rw [cellAt_of k1]; rfl, by rw [cellAt_of H.bx]; rfl, ?_⟩
  exact ld_agg T.ag_52 (vs := [.pointer (some ⟨g, 0, none⟩)]) (fun j v hv => by rw [cellAt_of H.bx, Nat.zero_add]; simpa using hv) rfl
/-- A cell of the instruction is written. -/
theorem DS.set (H : DS h h1 g q bd l x s) (o : Nat) (v : Value) (x' : In) (hk : x'.keys = x.keys) (ht : x'.tgts = x.tgts) (hv : ∀ vk vt, (InV x vk vt).toArray.setIfInBounds o v = (InV x' vk vt).toArray) :
    DS h (setAt h1 ⟨q, o, none⟩ v) g q bd l x' s := by
  obtain ⟨e1, e2, e3⟩ := H.gq
  obtain ⟨vk, vt, k1, k2, k3, k4⟩ := H.xr
  have f : Fr (fun k => k = q) h1 (setAt h1 ⟨q, o, none⟩ v) := Fr.set (S := fun k => k = q) _ _ _ fun _ => rfl
  have b1 := setAt_get (o := o) k1 v
  rw [hv] at b1
  refine ⟨Fr.trans H.fr f (fun _ _ h => h) (fun _ _ h => Or.inr h), H.rd.fr f (Ne.symm e1), ⟨vk, vt, b1, ?_, ?_, k4⟩, Fr_blk f H.bx e3⟩
  · rw [hk]; exact k2.fr f fun k hk hS => by subst hS; exact Own_ne k2 k1 (by decide) hk
  · rw [ht]; exact k3.fr f fun k hk hS => by subst hS; exact Own_ne k3 k1 (by decide) hk
theorem DS.notfz (H : DS h h1 g q bd l x s) (o : Nat) : frozenAt h1 ⟨q, o, none⟩ = false := by
  obtain ⟨vk, vt, k1, _⟩ := H.xr
  simp [frozenAt, k1]
theorem DS.size (H : DS h h1 g q bd l x s) : h.size ≤ h1.size := H.fr.size
/-- A new list of targets, of one. -/
theorem DS.tg1 (H : DS h h1 g q bd l x s) (n : Int) :
    DS h (setAt (h1.push (.cells #[.int .i64 n] 3)) ⟨q, 7, none⟩ (.slice (some ⟨h1.size, 0, none⟩) 1 1)) g q bd l { x with tgts := [n] } s := by
  obtain ⟨e1, e2, e3⟩ := H.gq
  obtain ⟨vk, vt, k1, k2, k3, k4⟩ := H.xr
  have E := Ext.push h1 (.cells #[.int .i64 n] 3)
  have hs := H.size
  have f : Fr (fun k => k = q) (h1.push (.cells #[.int .i64 n] 3)) (setAt (h1.push (.cells #[.int .i64 n] 3)) ⟨q, 7, none⟩ (.slice (some ⟨h1.size, 0, none⟩) 1 1)) := Fr.set (S := fun k => k = q) _ _ _ fun _ => rfl
  have k1' := push_blk (o' := .cells #[.int .i64 n] 3) k1
  have b1 := setAt_get (o := 7) k1' (.slice (some ⟨h1.size, 0, none⟩) 1 1)
  have own1 : Own (h1.push (.cells #[.int .i64 n] 3)) h.size 3 1 (.slice (some ⟨h1.size, 0, none⟩) 1 1) 1 [.int .i64 n] := Own.new (vs := [.int .i64 n]) rfl (by decide) hs
  refine ⟨Fr.trans (Fr.trans H.fr E (fun _ _ h => h) (fun _ _ h => h.elim)) f (fun _ _ h => h) (fun _ _ h => Or.inr h), (H.rd.fr E id).fr f (Ne.symm e1), ⟨vk, _, b1, ?_, ?_, ?_⟩, Fr_blk f (Fr_blk E H.bx id) e3⟩
  · exact (k2.ext E).fr f fun k hk hS => by subst hS; exact Own_ne (k2.ext E) k1' (by decide) hk
  · exact own1.fr f fun k hk hS => by subst hS; exact Own_ne own1 k1' (by decide) hk
  · intro k hk hk2
    simp only [Value.ownBlock, Option.some.injEq] at hk2
    have := (k2.lt k hk).2
    omega
end
end Go.Proofs.Ytjpcpkhegjndeaa

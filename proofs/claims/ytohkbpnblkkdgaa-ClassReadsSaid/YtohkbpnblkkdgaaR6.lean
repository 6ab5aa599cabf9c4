/- Reading a pool, by the reference. -/
import Derived.Test.YtohkbpnblkkdgaaR4
import Derived.Test.YtohkbpnblkkdgaaMC
import Derived.Test.YtohkbpnblkkdgaaB5
import Derived.Test.YtohkbpnblkkdgaaA3
namespace Go.Proofs.Ytohkbpnblkkdgaa
open Go.Vc
set_option maxRecDepth 100000
set_option linter.unusedSimpArgs false
set_option linter.unusedVariables false

def refOne (l : List UInt8) (p : Nat) : (Nat × Nat) ⊕ (Cst × Nat) :=
  let t := (l.getD p 0).toNat
  let z := (sizeS t).toNat
  let b := (l.take (p + 1 + z)).drop (p + 1)
  if l.length ≤ p then .inl (1, l.length)
  else if sizeS t < 0 then .inl (5, p)
  else if l.length < p + 1 + z then .inl (1, l.length)
  else if t = 1 then
    (if l.length < p + 1 + z + numB b then .inl (1, l.length)
     else if unitsS ((l.take (p + 1 + z + numB b)).drop (p + 1 + z)) = none then .inl (6, p)
     else .inr (⟨1, (l.take (p + 1 + z + numB b)).drop (p + 1 + z), 0, 0, 0⟩, p + 1 + z + numB b))
  else if t = 3 ∨ t = 4 ∨ t = 5 ∨ t = 6 then .inr (⟨t, [], numB b, 0, 0⟩, p + 1 + z)
  else if t = 7 ∨ t = 8 then .inr (⟨t, [], 0, numB b, 0⟩, p + 1 + z)
  else .inr (⟨t, [], 0, numB (b.take 2), numB (b.drop 2)⟩, p + 1 + z)
abbrev RR := List Cst × Nat × Nat × Nat
def refLoop (l : List UInt8) (n : Nat) : Nat → List Cst → Nat → RR
  | 0, cs, p => (cs, p, 0, 0)
  | k + 1, cs, p => if cs.length < n then
      (match refOne l p with
       | .inl e => ([], 0, e.1, e.2)
       | .inr (c, p') => if bigTwo c.tag then (if n < cs.length + 2 then ([], 0, 12, p) else refLoop l n k (cs ++ [c] ++ [Cst.zero]) p') else refLoop l n k (cs ++ [c]) p')
    else (cs, p, 0, 0)
def refRead (l : List UInt8) : RR :=
  if l.length < 2 then ([], 0, 1, l.length)
  else if numB (l.take 2) = 0 then ([], 0, 12, 0)
  else refLoop l (numB (l.take 2)) (numB (l.take 2)) [Cst.zero] 2
/-- What a reading function gives: the pool, its length in bytes, the error, its place. -/
def rdV (h0 : Nat) (x : RR) (v : Value) (h' : Heap) : Prop := ∃ sv, v = .tuple #[sv, .int .i64 x.2.1, .int .i64 x.2.2.1, .int .i64 x.2.2.2] ∧ Own h' h0 76 5 sv x.1.length (flatS x.1)
theorem rdV_err {h0 a b : Nat} {h' : Heap} : rdV h0 ([], 0, a, b) (.tuple #[.slice none 0 0, .int .i64 0, .int .i64 a, .int .i64 b]) h' := ⟨_, rfl, Own.nil⟩


set_option maxHeartbeats 8000000 in
theorem rread_any (l : List UInt8) (h : Heap) (hl : l.length ≤ 1073741824) : HCalls Try.prog 60 #[str l] h fun v h' => Ext h h' ∧ rdV h.size (refRead l) v h' := by
  refine C.ref1_Read_calls (args := [str l]) rfl ?_
  by_cases h2 : l.length < 2
  · have h2' : (l.length : Int) < 2 := by omega
    have hR : refRead l = ([], 0, 1, l.length) := if_pos h2
    rw [hR]
    simp (disch := first | omega | assumption) only [C.ref1_Read_gos, vs, Go.Vc.vk, T.ts, ↓reduceIte, Nat.reduceEqDiff, reduceCtorEq, Nat.reduceLeDiff, Nat.reducePow, Int.reducePow, Int.reduceToNat, Nat.reduceAdd, h2']
    exact ⟨Ext.refl _, rdV_err⟩
  have h2' : ¬ (l.length : Int) < 2 := by omega
  simp (disch := first | omega | assumption) only [C.ref1_Read_gos, vs, Go.Vc.vk, T.ts, ↓reduceIte, Nat.reduceEqDiff, reduceCtorEq, Nat.reduceLeDiff, Nat.reducePow, Int.reducePow, Int.reduceToNat, Nat.reduceAdd, h2', Int.reduceToNat]
  refine eff_call_of ?_
  simp (disch := first | omega | assumption) only [C.ref1_Read_gos, vs, Go.Vc.vk, T.ts, ↓reduceIte, Nat.reduceEqDiff, reduceCtorEq, Nat.reduceLeDiff, Nat.reducePow, Int.reducePow, Int.reduceToNat, Nat.reduceAdd, Int.reduceToNat]
  refine (rnum_any (l.take 2) h (by simp; omega)).mono ?_
  rintro v1 h1 ⟨rfl, rfl⟩
  have hn : numB (l.take 2) < 65536 := Nat.lt_of_lt_of_le (numB_lt _) (by
    have : (l.take 2).length = 2 := by simp; omega
    rw [this]; decide)
  by_cases hz : numB (l.take 2) = 0
  · have hR : refRead l = ([], 0, 12, 0) := by unfold refRead; rw [if_neg h2, if_pos hz]
    rw [hR]
    have hz' : (numB (l.take 2) : Int) = 0 := by omega
    simp (disch := first | omega | assumption) only [C.ref1_Read_gos, vs, Go.Vc.vk, T.ts, ↓reduceIte, Nat.reduceEqDiff, reduceCtorEq, Nat.reduceLeDiff, Nat.reducePow, Int.reducePow, Int.reduceToNat, Nat.reduceAdd, eq_true hz']
    exact ⟨Ext.refl _, rdV_err⟩
  have hR : refRead l = refLoop l (numB (l.take 2)) (numB (l.take 2)) [Cst.zero] 2 := by unfold refRead; rw [if_neg h2, if_neg hz]
  have hz' : ¬ (numB (l.take 2) : Int) = 0 := by omega
  rw [hR]
  clear hR
  generalize numB (l.take 2) = n at *
  generalize hX : refLoop l n n [Cst.zero] 2 = X
  simp (disch := first | omega | assumption) only [C.ref1_Read_gos, vs, Go.Vc.vk, T.ts, ↓reduceIte, Nat.reduceEqDiff, reduceCtorEq, Nat.reduceLeDiff, Nat.reducePow, Int.reducePow, Int.reduceToNat, Nat.reduceAdd, eq_false hz']
  refine eff_lits T.slT_22 rfl rfl (by decide) ?_
  simp (disch := first | omega | assumption) only [C.ref1_Read_gos, vs, Go.Vc.vk, T.ts, ↓reduceIte, Nat.reduceEqDiff, reduceCtorEq, Nat.reduceLeDiff, Nat.reducePow, Int.reducePow, Int.reduceToNat, Nat.reduceAdd]
  have own0 : Own (h1.push (.cells (Cst.zero.cells).toArray 76 (0, 0))) h1.size 76 5 (.slice (some ⟨h1.size, 0, none⟩) 1 1) 1 (flatS [Cst.zero]) := Own.new (vs := flatS [Cst.zero]) rfl (by decide +kernel) (Nat.le_refl _)
  change Own (h1.push (.cells #[.int .u8 0, str [], .int .u64 0, .int .u16 0, .int .u16 0] 76)) h1.size 76 5 (.slice (some ⟨h1.size, 0, none⟩) 1 1) 1 (flatS [Cst.zero]) at own0
  have ext0 : Ext h1 (h1.push (.cells #[.int .u8 0, str [], .int .u64 0, .int .u16 0, .int .u16 0] 76)) := Ext.push _ _
  refine loop_intro [0, 6, 7, 8] (fun m ρ hc => ∃ (k : Nat) (cs : List Cst) (v : Value) (p : Nat), m = n - cs.length ∧ n ≤ k + cs.length ∧
      ρ = [(0, str l), (6, .int .i64 n), (7, v), (8, .int .i64 p)] ∧ Ext h1 hc ∧ Own hc h1.size 76 5 v cs.length (flatS cs) ∧ refLoop l n k cs p = X ∧ cs.length ≤ n + 1 ∧ p ≤ l.length) ?_ ?_
  · simp (disch := first | omega | assumption) only [C.ref1_Read_gos, vs, Go.Vc.vk, T.ts, ↓reduceIte, Nat.reduceEqDiff, reduceCtorEq, Nat.reduceLeDiff, Nat.reducePow, Int.reducePow, Int.reduceToNat, Nat.reduceAdd]
    exact ⟨_, n, [Cst.zero], _, 2, rfl, by omega, rfl, ext0, own0, hX, by simp, by omega⟩
  rintro m ρ hc ⟨k, cs, v, p, rfl, hk, rfl, fc, oc, hL, hcs, hp⟩
  obtain ⟨a, c, rfl, _⟩ := oc.slN.2
  have hszc := fc.size
  clear own0 ext0 hX
  by_cases hlt : cs.length < n
  case neg =>
    have hlt' : ¬ (cs.length : Int) < n := by omega
    have hst : X = (cs, p, 0, 0) := by
      rw [← hL]
      cases k with
      | zero => rfl
      | succ k => rw [refLoop, if_neg hlt]
    subst hst
    simp (disch := first | omega | assumption) only [C.ref1_Read_gos, vs, Go.Vc.vk, T.ts, ↓reduceIte, Nat.reduceEqDiff, reduceCtorEq, Nat.reduceLeDiff, Nat.reducePow, Int.reducePow, Int.reduceToNat, Nat.reduceAdd, hlt']
    exact ⟨fc, _, rfl, oc⟩
  have hlt' : (cs.length : Int) < n := by omega
  obtain ⟨k, rfl⟩ : ∃ k', k = k' + 1 := ⟨k - 1, by omega⟩
  have errX : ∀ {e : Nat × Nat}, refOne l p = .inl e → X = ([], 0, e.1, e.2) := by
    intro e he
    rw [← hL, refLoop, if_pos hlt, he]
  have okX : ∀ {c : Cst} {p' : Nat}, refOne l p = .inr (c, p') → X = (if bigTwo c.tag then (if n < cs.length + 2 then ([], 0, 12, p) else refLoop l n k (cs ++ [c] ++ [Cst.zero]) p') else refLoop l n k (cs ++ [c]) p') := by
    intro c p' he
    rw [← hL, refLoop, if_pos hlt, he]
  clear hL
  by_cases hpl : l.length ≤ p
  · have hpl' : (l.length : Int) ≤ p := by omega
    have hone : refOne l p = .inl (1, l.length) := if_pos hpl
    rw [errX hone]
    simp (disch := first | omega | assumption) only [C.ref1_Read_gos, vs, Go.Vc.vk, T.ts, ↓reduceIte, Nat.reduceEqDiff, reduceCtorEq, Nat.reduceLeDiff, Nat.reducePow, Int.reducePow, Int.reduceToNat, Nat.reduceAdd, hlt', hpl']
    exact ⟨fc, rdV_err⟩
  have hpl' : ¬ (l.length : Int) ≤ p := by omega
  have hpi : (p : Int) < l.length := by omega
  simp (disch := first | omega | assumption) only [C.ref1_Read_gos, vs, Go.Vc.vk, T.ts, ↓reduceIte, Nat.reduceEqDiff, reduceCtorEq, Nat.reduceLeDiff, Nat.reducePow, Int.reducePow, Int.reduceToNat, Nat.reduceAdd, hlt', hpl', hpi]
  have ht : (l.getD p 0).toNat < 256 := by have := UInt8.toNat_lt (l.getD p 0); simpa using this
  have hone : refOne l p = refOne l p := rfl
  conv at hone => rhs; unfold refOne
  simp only [if_neg hpl] at hone
  generalize (l.getD p 0).toNat = t at *
  refine eff_alloc_z T.zr_76 ?_
  simp (disch := first | omega | assumption) only [C.ref1_Read_gos, vs, Go.Vc.vk, T.ts, ↓reduceIte, Nat.reduceEqDiff, reduceCtorEq, Nat.reduceLeDiff, Nat.reducePow, Int.reducePow, Int.reduceToNat, Nat.reduceAdd]
  refine eff_store_new_z T.zr_76 rfl rfl rfl (by simp [Value.cells, oneCell, str]) rfl ?_
  intro h3 x3 hlt3 hrd3 b3
  change h3[hc.size]? = some (.cells #[.int .u8 (t : Int), str [], .int .u64 0, .int .u16 0, .int .u16 0] 76 (0, 0)) at b3
  have c0 : cellAt h3 ⟨hc.size, 0, none⟩ = some (.int .u8 (t : Int)) := hrd3 0 _ rfl
  have o3 := oc.ext x3
  have F3 := fc.trans x3
  have hq : ∀ k, (Value.slice a cs.length c).ownBlock = some k → k < hc.size := fun k hk => (oc.lt k hk).2
  clear hrd3 x3 oc fc
  generalize hc.size = q at *
  simp (disch := first | omega | assumption) only [C.ref1_Read_gos, vs, Go.Vc.vk, T.ts, ↓reduceIte, Nat.reduceEqDiff, reduceCtorEq, Nat.reduceLeDiff, Nat.reducePow, Int.reducePow, Int.reduceToNat, Nat.reduceAdd, c0]
  refine eff_call_of ?_
  simp (disch := first | omega | assumption) only [C.ref1_Read_gos, vs, Go.Vc.vk, T.ts, ↓reduceIte, Nat.reduceEqDiff, reduceCtorEq, Nat.reduceLeDiff, Nat.reducePow, Int.reducePow, Int.reduceToNat, Nat.reduceAdd]
  refine (sizes_any t h3).mono ?_
  rintro v4 h4 ⟨rfl, rfl⟩
  have e1 : (p : Int) + 1 = ((p + 1 : Nat) : Int) := by omega
  by_cases t1 : t = 1
  · subst t1
    rw [show sizeS 1 = 2 from rfl]
    simp only [show sizeS 1 = 2 from rfl, Int.reduceToNat, Int.reduceLT, if_false, Nat.reduceEqDiff, if_true, or_true, true_or, or_false, false_or, Nat.add_assoc, Nat.reduceAdd] at hone
    rw [show ((1 : Nat) : Int) = 1 from rfl] at b3 c0
    have e2 : ((p + 1 : Nat) : Int) + 2 = ((p + 3 : Nat) : Int) := by omega
    by_cases hz : l.length < p + 3
    · have hz' : (l.length : Int) < ((p + 3 : Nat) : Int) := by omega
      rw [if_pos hz] at hone
      rw [errX hone]
      simp (disch := first | omega | assumption) only [C.ref1_Read_gos, vs, Go.Vc.vk, T.ts, ↓reduceIte, Nat.reduceEqDiff, reduceCtorEq, Nat.reduceLeDiff, Nat.reducePow, Int.reducePow, Int.reduceToNat, Nat.reduceAdd, Int.reduceLT, e1, e2, hz']
      exact ⟨F3, rdV_err⟩
    have hz' : ¬ (l.length : Int) < ((p + 3 : Nat) : Int) := by omega
    rw [if_neg hz] at hone
    have hbl : ((l.take (p + 3)).drop (p + 1)).length = 2 := by simp; omega
    simp (disch := first | omega | assumption) only [C.ref1_Read_gos, vs, Go.Vc.vk, T.ts, ↓reduceIte, Nat.reduceEqDiff, reduceCtorEq, Nat.reduceLeDiff, Nat.reducePow, Int.reducePow, Int.reduceToNat, Nat.reduceAdd, Int.reduceLT, e1, e2, hz', c0, Int.reduceEq, decide_true, decide_false]
    generalize (l.take (p + 3)).drop (p + 1) = bs at *
    refine eff_call_of ?_
    simp (disch := first | omega | assumption) only [C.ref1_Read_gos, vs, Go.Vc.vk, T.ts, ↓reduceIte, Nat.reduceEqDiff, reduceCtorEq, Nat.reduceLeDiff, Nat.reducePow, Int.reducePow, Int.reduceToNat, Nat.reduceAdd]
    refine (rnum_any bs h4 (by omega)).mono ?_
    rintro v5 h5 ⟨rfl, rfl⟩
    have hb : numB bs < 65536 := by have := numB_lt bs; rw [hbl] at this; exact this
    generalize numB bs = m at *
    have e3 : ((p + 3 : Nat) : Int) + (m : Int) = ((p + (3 + m) : Nat) : Int) := by omega
    by_cases hm : l.length < p + (3 + m)
    · have hm' : (l.length : Int) < ((p + (3 + m) : Nat) : Int) := by omega
      rw [if_pos hm] at hone
      rw [errX hone]
      simp (disch := first | omega | assumption) only [C.ref1_Read_gos, vs, Go.Vc.vk, T.ts, ↓reduceIte, Nat.reduceEqDiff, reduceCtorEq, Nat.reduceLeDiff, Nat.reducePow, Int.reducePow, Int.reduceToNat, Nat.reduceAdd, e3, hm']
      exact ⟨F3, rdV_err⟩
    have hm' : ¬ (l.length : Int) < ((p + (3 + m) : Nat) : Int) := by omega
    rw [if_neg hm] at hone
    simp (disch := first | omega | assumption) only [C.ref1_Read_gos, vs, Go.Vc.vk, T.ts, ↓reduceIte, Nat.reduceEqDiff, reduceCtorEq, Nat.reduceLeDiff, Nat.reducePow, Int.reducePow, Int.reduceToNat, Nat.reduceAdd, e3, hm']
    have htl : ((l.take (p + (3 + m))).drop (p + 3)).length ≤ 65536 := by simp; omega
    generalize (l.take (p + (3 + m))).drop (p + 3) = tx at *
    refine eff_store1_z T.zr_9 rfl rfl rfl rfl rfl (u := str []) (by rw [cellAt_of b3]; rfl) (by simp [frozenAt, b3]) ?_
    have b7 := setAt_get (o := 1) b3 (str tx)
    have w7 : Fr (fun k => k = q) h5 (setAt h5 ⟨q, 1, none⟩ (str tx)) := Fr.set (S := fun k => k = q) _ _ _ fun _ => rfl
    have F7 : Ext h1 (setAt h5 ⟨q, 1, none⟩ (str tx)) := Fr.trans F3 w7 (fun _ _ h => h) (fun k hk hS => by omega)
    have o7 := o3.fr w7 (fun k hk hS => by have := hq k hk; omega)
    change (setAt h5 ⟨q, 1, none⟩ (str tx))[q]? = some (.cells #[.int .u8 1, str tx, .int .u64 0, .int .u16 0, .int .u16 0] 76 (0, 0)) at b7
    generalize setAt h5 ⟨q, 1, none⟩ (str tx) = k7 at *
    have d1 : cellAt k7 ⟨q, 1, none⟩ = some (str tx) := by rw [cellAt_of b7]; rfl
    simp (disch := first | omega | assumption) only [C.ref1_Read_gos, vs, Go.Vc.vk, T.ts, ↓reduceIte, Nat.reduceEqDiff, reduceCtorEq, Nat.reduceLeDiff, Nat.reducePow, Int.reducePow, Int.reduceToNat, Nat.reduceAdd, d1, e3]
    refine eff_call_of ?_
    simp (disch := first | omega | assumption) only [C.ref1_Read_gos, vs, Go.Vc.vk, T.ts, ↓reduceIte, Nat.reduceEqDiff, reduceCtorEq, Nat.reduceLeDiff, Nat.reducePow, Int.reducePow, Int.reduceToNat, Nat.reduceAdd]
    refine (runits_any tx k7 (by omega)).mono ?_
    rintro v8 h8 ⟨x8, u8⟩
    cases hu : unitsS tx with
    | none =>
      rw [hu] at u8
      simp only [URes] at u8
      subst u8
      rw [if_pos hu] at hone
      rw [errX hone]
      simp (disch := first | omega | assumption) only [C.ref1_Read_gos, vs, Go.Vc.vk, T.ts, ↓reduceIte, Nat.reduceEqDiff, reduceCtorEq, Nat.reduceLeDiff, Nat.reducePow, Int.reducePow, Int.reduceToNat, Nat.reduceAdd]
      exact ⟨F7.trans x8, rdV_err⟩
    | some us =>
      rw [hu] at u8
      simp only [URes] at u8
      obtain ⟨sv, rfl, _⟩ := u8
      rw [if_neg (by rw [hu]; simp)] at hone
      have b8 := Fr_blk x8 b7 id
      have F8 := F7.trans x8
      have o8 := o7.ext x8
      clear o7 b7 F7
      simp (disch := first | omega | assumption) only [C.ref1_Read_gos, vs, Go.Vc.vk, T.ts, ↓reduceIte, Nat.reduceEqDiff, reduceCtorEq, Nat.reduceLeDiff, Nat.reducePow, Int.reducePow, Int.reduceToNat, Nat.reduceAdd]
      have hld := ld_agg T.ag_76 (Rd_block (vs := [.int .u8 1, str tx, .int .u64 0, .int .u16 0, .int .u16 0]) b8) rfl
      simp (disch := first | omega | assumption) only [C.ref1_Read_gos, vs, Go.Vc.vk, T.ts, ↓reduceIte, Nat.reduceEqDiff, reduceCtorEq, Nat.reduceLeDiff, Nat.reducePow, Int.reducePow, Int.reduceToNat, Nat.reduceAdd, hld]
      refine eff_lits T.slT_22 rfl rfl (by decide) ?_
      simp (disch := first | omega | assumption) only [C.ref1_Read_gos, vs, Go.Vc.vk, T.ts, ↓reduceIte, Nat.reduceEqDiff, reduceCtorEq, Nat.reduceLeDiff, Nat.reducePow, Int.reducePow, Int.reduceToNat, Nat.reduceAdd]
      refine eff_append_own (m := 1) T.slT_22 rfl rfl (o8.push _) rfl (Rd_new (vs := [.int .u8 1, str tx, .int .u64 0, .int .u16 0, .int .u16 0])) (by simp [oneCell, str]) (by omega) (by omega) (by have := F8.size; simp; omega) ?_
      intro v6 h6 o6 f6 _
      have b6 := Fr_blk f6 (push_blk b8) (fun hk => by have := hq _ hk; omega)
      have F6 : Ext h1 h6 := Ext.app (F8.trans (Ext.push _ _)) f6 (fun k hk => (o8.lt k hk).1)
      have e6 : flatS cs ++ [.int .u8 1, str tx, .int .u64 0, .int .u16 0, .int .u16 0] = flatS (cs ++ [Cst.mk 1 tx 0 0 0]) := by simp [flatS, Cst.cells]
      have o7 : Own h6 h1.size 76 5 v6 (cs ++ [Cst.mk 1 tx 0 0 0]).length (flatS (cs ++ [Cst.mk 1 tx 0 0 0])) := Own_cast o6 (by simp) e6
      have c6 : cellAt h6 ⟨q, 0, none⟩ = some (.int .u8 1) := by rw [cellAt_of b6]; rfl
      have hX := okX hone
      simp only [show bigTwo 1 = false from rfl, if_true, Bool.false_eq_true, if_false] at hX
      clear o6 e6
      have hl2 : (cs ++ [Cst.mk 1 tx 0 0 0]).length = cs.length + 1 := by simp
      generalize cs ++ [Cst.mk 1 tx 0 0 0] = cs2 at *
      obtain ⟨a6, cc6, rfl, _⟩ := o7.slN.2
      simp (disch := first | omega | assumption) only [C.ref1_Read_gos, vs, Go.Vc.vk, T.ts, ↓reduceIte, Nat.reduceEqDiff, reduceCtorEq, Nat.reduceLeDiff, Nat.reducePow, Int.reducePow, Int.reduceToNat, Nat.reduceAdd, c6, Int.reduceEq, decide_true, decide_false]
      exact ⟨_, by omega, k, cs2, _, _, rfl, by omega, rfl, F6, o7, hX.symm, by omega, by omega⟩
  by_cases t3 : t = 3
  · subst t3
    rw [show sizeS 3 = 4 from rfl]
    simp only [show sizeS 3 = 4 from rfl, Int.reduceToNat, Int.reduceLT, if_false, Nat.reduceEqDiff, if_true, or_true, true_or, or_false, false_or, Nat.add_assoc, Nat.reduceAdd] at hone
    rw [show ((3 : Nat) : Int) = 3 from rfl] at b3 c0
    have e2 : ((p + 1 : Nat) : Int) + 4 = ((p + 5 : Nat) : Int) := by omega
    by_cases hz : l.length < p + 5
    · have hz' : (l.length : Int) < ((p + 5 : Nat) : Int) := by omega
      rw [if_pos hz] at hone
      rw [errX hone]
      simp (disch := first | omega | assumption) only [C.ref1_Read_gos, vs, Go.Vc.vk, T.ts, ↓reduceIte, Nat.reduceEqDiff, reduceCtorEq, Nat.reduceLeDiff, Nat.reducePow, Int.reducePow, Int.reduceToNat, Nat.reduceAdd, Int.reduceLT, e1, e2, hz']
      exact ⟨F3, rdV_err⟩
    have hz' : ¬ (l.length : Int) < ((p + 5 : Nat) : Int) := by omega
    rw [if_neg hz] at hone
    have hbl : ((l.take (p + 5)).drop (p + 1)).length = 4 := by simp; omega
    simp (disch := first | omega | assumption) only [C.ref1_Read_gos, vs, Go.Vc.vk, T.ts, ↓reduceIte, Nat.reduceEqDiff, reduceCtorEq, Nat.reduceLeDiff, Nat.reducePow, Int.reducePow, Int.reduceToNat, Nat.reduceAdd, Int.reduceLT, e1, e2, hz', c0, Int.reduceEq, decide_true, decide_false]
    generalize (l.take (p + 5)).drop (p + 1) = bs at *
    refine eff_call_of ?_
    simp (disch := first | omega | assumption) only [C.ref1_Read_gos, vs, Go.Vc.vk, T.ts, ↓reduceIte, Nat.reduceEqDiff, reduceCtorEq, Nat.reduceLeDiff, Nat.reducePow, Int.reducePow, Int.reduceToNat, Nat.reduceAdd]
    refine (rnum_any bs h4 (by omega)).mono ?_
    rintro v5 h5 ⟨rfl, rfl⟩
    generalize numB bs = m at *
    simp (disch := first | omega | assumption) only [C.ref1_Read_gos, vs, Go.Vc.vk, T.ts, ↓reduceIte, Nat.reduceEqDiff, reduceCtorEq, Nat.reduceLeDiff, Nat.reducePow, Int.reducePow, Int.reduceToNat, Nat.reduceAdd]
    refine eff_store1_z T.zr_74 rfl rfl rfl rfl rfl (u := .int .u64 0) (by rw [cellAt_of b3]; rfl) (by simp [frozenAt, b3]) ?_
    have b5 := setAt_get (o := 2) b3 (.int .u64 (m : Int))
    have w5 : Fr (fun k => k = q) h5 (setAt h5 ⟨q, 2, none⟩ (.int .u64 (m : Int))) := Fr.set (S := fun k => k = q) _ _ _ fun _ => rfl
    have F5 : Ext h1 (setAt h5 ⟨q, 2, none⟩ (.int .u64 (m : Int))) := Fr.trans F3 w5 (fun _ _ h => h) (fun k hk hS => by omega)
    have o5 := o3.fr w5 (fun k hk hS => by have := hq k hk; omega)
    change (setAt h5 ⟨q, 2, none⟩ (.int .u64 (m : Int)))[q]? = some (.cells #[.int .u8 3, str [], .int .u64 (m : Int), .int .u16 0, .int .u16 0] 76 (0, 0)) at b5
    generalize setAt h5 ⟨q, 2, none⟩ (.int .u64 (m : Int)) = k5 at *
    simp (disch := first | omega | assumption) only [C.ref1_Read_gos, vs, Go.Vc.vk, T.ts, ↓reduceIte, Nat.reduceEqDiff, reduceCtorEq, Nat.reduceLeDiff, Nat.reducePow, Int.reducePow, Int.reduceToNat, Nat.reduceAdd]
    have hld := ld_agg T.ag_76 (Rd_block (vs := [.int .u8 3, str [], .int .u64 (m : Int), .int .u16 0, .int .u16 0]) b5) rfl
    simp (disch := first | omega | assumption) only [C.ref1_Read_gos, vs, Go.Vc.vk, T.ts, ↓reduceIte, Nat.reduceEqDiff, reduceCtorEq, Nat.reduceLeDiff, Nat.reducePow, Int.reducePow, Int.reduceToNat, Nat.reduceAdd, hld]
    refine eff_lits T.slT_22 rfl rfl (by decide) ?_
    simp (disch := first | omega | assumption) only [C.ref1_Read_gos, vs, Go.Vc.vk, T.ts, ↓reduceIte, Nat.reduceEqDiff, reduceCtorEq, Nat.reduceLeDiff, Nat.reducePow, Int.reducePow, Int.reduceToNat, Nat.reduceAdd]
    refine eff_append_own (m := 1) T.slT_22 rfl rfl (o5.push _) rfl (Rd_new (vs := [.int .u8 3, str [], .int .u64 (m : Int), .int .u16 0, .int .u16 0])) (by simp [oneCell, str]) (by omega) (by omega) (by have := F5.size; simp; omega) ?_
    intro v6 h6 o6 f6 _
    have b6 := Fr_blk f6 (push_blk b5) (fun hk => by have := hq _ hk; omega)
    have F6 : Ext h1 h6 := Ext.app (F5.trans (Ext.push _ _)) f6 (fun k hk => (o5.lt k hk).1)
    have e6 : flatS cs ++ [.int .u8 3, str [], .int .u64 (m : Int), .int .u16 0, .int .u16 0] = flatS (cs ++ [Cst.mk 3 [] m 0 0]) := by simp [flatS, Cst.cells]
    have o7 : Own h6 h1.size 76 5 v6 (cs ++ [Cst.mk 3 [] m 0 0]).length (flatS (cs ++ [Cst.mk 3 [] m 0 0])) := Own_cast o6 (by simp) e6
    have c6 : cellAt h6 ⟨q, 0, none⟩ = some (.int .u8 3) := by rw [cellAt_of b6]; rfl
    have hX := okX hone
    simp only [show bigTwo 3 = false from rfl, if_true, Bool.false_eq_true, if_false] at hX
    clear o6 e6
    have hl2 : (cs ++ [Cst.mk 3 [] m 0 0]).length = cs.length + 1 := by simp
    generalize cs ++ [Cst.mk 3 [] m 0 0] = cs2 at *
    obtain ⟨a6, cc6, rfl, _⟩ := o7.slN.2
    simp (disch := first | omega | assumption) only [C.ref1_Read_gos, vs, Go.Vc.vk, T.ts, ↓reduceIte, Nat.reduceEqDiff, reduceCtorEq, Nat.reduceLeDiff, Nat.reducePow, Int.reducePow, Int.reduceToNat, Nat.reduceAdd, c6, Int.reduceEq, decide_true, decide_false]
    exact ⟨_, by omega, k, cs2, _, _, rfl, by omega, rfl, F6, o7, hX.symm, by omega, by omega⟩
  by_cases t4 : t = 4
  · subst t4
    rw [show sizeS 4 = 4 from rfl]
    simp only [show sizeS 4 = 4 from rfl, Int.reduceToNat, Int.reduceLT, if_false, Nat.reduceEqDiff, if_true, or_true, true_or, or_false, false_or, Nat.add_assoc, Nat.reduceAdd] at hone
    rw [show ((4 : Nat) : Int) = 4 from rfl] at b3 c0
    have e2 : ((p + 1 : Nat) : Int) + 4 = ((p + 5 : Nat) : Int) := by omega
    by_cases hz : l.length < p + 5
    · have hz' : (l.length : Int) < ((p + 5 : Nat) : Int) := by omega
      rw [if_pos hz] at hone
      rw [errX hone]
      simp (disch := first | omega | assumption) only [C.ref1_Read_gos, vs, Go.Vc.vk, T.ts, ↓reduceIte, Nat.reduceEqDiff, reduceCtorEq, Nat.reduceLeDiff, Nat.reducePow, Int.reducePow, Int.reduceToNat, Nat.reduceAdd, Int.reduceLT, e1, e2, hz']
      exact ⟨F3, rdV_err⟩
    have hz' : ¬ (l.length : Int) < ((p + 5 : Nat) : Int) := by omega
    rw [if_neg hz] at hone
    have hbl : ((l.take (p + 5)).drop (p + 1)).length = 4 := by simp; omega
    simp (disch := first | omega | assumption) only [C.ref1_Read_gos, vs, Go.Vc.vk, T.ts, ↓reduceIte, Nat.reduceEqDiff, reduceCtorEq, Nat.reduceLeDiff, Nat.reducePow, Int.reducePow, Int.reduceToNat, Nat.reduceAdd, Int.reduceLT, e1, e2, hz', c0, Int.reduceEq, decide_true, decide_false]
    generalize (l.take (p + 5)).drop (p + 1) = bs at *
    refine eff_call_of ?_
    simp (disch := first | omega | assumption) only [C.ref1_Read_gos, vs, Go.Vc.vk, T.ts, ↓reduceIte, Nat.reduceEqDiff, reduceCtorEq, Nat.reduceLeDiff, Nat.reducePow, Int.reducePow, Int.reduceToNat, Nat.reduceAdd]
    refine (rnum_any bs h4 (by omega)).mono ?_
    rintro v5 h5 ⟨rfl, rfl⟩
    generalize numB bs = m at *
    simp (disch := first | omega | assumption) only [C.ref1_Read_gos, vs, Go.Vc.vk, T.ts, ↓reduceIte, Nat.reduceEqDiff, reduceCtorEq, Nat.reduceLeDiff, Nat.reducePow, Int.reducePow, Int.reduceToNat, Nat.reduceAdd]
    refine eff_store1_z T.zr_74 rfl rfl rfl rfl rfl (u := .int .u64 0) (by rw [cellAt_of b3]; rfl) (by simp [frozenAt, b3]) ?_
    have b5 := setAt_get (o := 2) b3 (.int .u64 (m : Int))
    have w5 : Fr (fun k => k = q) h5 (setAt h5 ⟨q, 2, none⟩ (.int .u64 (m : Int))) := Fr.set (S := fun k => k = q) _ _ _ fun _ => rfl
    have F5 : Ext h1 (setAt h5 ⟨q, 2, none⟩ (.int .u64 (m : Int))) := Fr.trans F3 w5 (fun _ _ h => h) (fun k hk hS => by omega)
    have o5 := o3.fr w5 (fun k hk hS => by have := hq k hk; omega)
    change (setAt h5 ⟨q, 2, none⟩ (.int .u64 (m : Int)))[q]? = some (.cells #[.int .u8 4, str [], .int .u64 (m : Int), .int .u16 0, .int .u16 0] 76 (0, 0)) at b5
    generalize setAt h5 ⟨q, 2, none⟩ (.int .u64 (m : Int)) = k5 at *
    simp (disch := first | omega | assumption) only [C.ref1_Read_gos, vs, Go.Vc.vk, T.ts, ↓reduceIte, Nat.reduceEqDiff, reduceCtorEq, Nat.reduceLeDiff, Nat.reducePow, Int.reducePow, Int.reduceToNat, Nat.reduceAdd]
    have hld := ld_agg T.ag_76 (Rd_block (vs := [.int .u8 4, str [], .int .u64 (m : Int), .int .u16 0, .int .u16 0]) b5) rfl
    simp (disch := first | omega | assumption) only [C.ref1_Read_gos, vs, Go.Vc.vk, T.ts, ↓reduceIte, Nat.reduceEqDiff, reduceCtorEq, Nat.reduceLeDiff, Nat.reducePow, Int.reducePow, Int.reduceToNat, Nat.reduceAdd, hld]
    refine eff_lits T.slT_22 rfl rfl (by decide) ?_
    simp (disch := first | omega | assumption) only [C.ref1_Read_gos, vs, Go.Vc.vk, T.ts, ↓reduceIte, Nat.reduceEqDiff, reduceCtorEq, Nat.reduceLeDiff, Nat.reducePow, Int.reducePow, Int.reduceToNat, Nat.reduceAdd]
    refine eff_append_own (m := 1) T.slT_22 rfl rfl (o5.push _) rfl (Rd_new (vs := [.int .u8 4, str [], .int .u64 (m : Int), .int .u16 0, .int .u16 0])) (by simp [oneCell, str]) (by omega) (by omega) (by have := F5.size; simp; omega) ?_
    intro v6 h6 o6 f6 _
    have b6 := Fr_blk f6 (push_blk b5) (fun hk => by have := hq _ hk; omega)
    have F6 : Ext h1 h6 := Ext.app (F5.trans (Ext.push _ _)) f6 (fun k hk => (o5.lt k hk).1)
    have e6 : flatS cs ++ [.int .u8 4, str [], .int .u64 (m : Int), .int .u16 0, .int .u16 0] = flatS (cs ++ [Cst.mk 4 [] m 0 0]) := by simp [flatS, Cst.cells]
    have o7 : Own h6 h1.size 76 5 v6 (cs ++ [Cst.mk 4 [] m 0 0]).length (flatS (cs ++ [Cst.mk 4 [] m 0 0])) := Own_cast o6 (by simp) e6
    have c6 : cellAt h6 ⟨q, 0, none⟩ = some (.int .u8 4) := by rw [cellAt_of b6]; rfl
    have hX := okX hone
    simp only [show bigTwo 4 = false from rfl, if_true, Bool.false_eq_true, if_false] at hX
    clear o6 e6
    have hl2 : (cs ++ [Cst.mk 4 [] m 0 0]).length = cs.length + 1 := by simp
    generalize cs ++ [Cst.mk 4 [] m 0 0] = cs2 at *
    obtain ⟨a6, cc6, rfl, _⟩ := o7.slN.2
    simp (disch := first | omega | assumption) only [C.ref1_Read_gos, vs, Go.Vc.vk, T.ts, ↓reduceIte, Nat.reduceEqDiff, reduceCtorEq, Nat.reduceLeDiff, Nat.reducePow, Int.reducePow, Int.reduceToNat, Nat.reduceAdd, c6, Int.reduceEq, decide_true, decide_false]
    exact ⟨_, by omega, k, cs2, _, _, rfl, by omega, rfl, F6, o7, hX.symm, by omega, by omega⟩
  by_cases t5 : t = 5
  · subst t5
    rw [show sizeS 5 = 8 from rfl]
    simp only [show sizeS 5 = 8 from rfl, Int.reduceToNat, Int.reduceLT, if_false, Nat.reduceEqDiff, if_true, or_true, true_or, or_false, false_or, Nat.add_assoc, Nat.reduceAdd] at hone
    rw [show ((5 : Nat) : Int) = 5 from rfl] at b3 c0
    have e2 : ((p + 1 : Nat) : Int) + 8 = ((p + 9 : Nat) : Int) := by omega
    by_cases hz : l.length < p + 9
    · have hz' : (l.length : Int) < ((p + 9 : Nat) : Int) := by omega
      rw [if_pos hz] at hone
      rw [errX hone]
      simp (disch := first | omega | assumption) only [C.ref1_Read_gos, vs, Go.Vc.vk, T.ts, ↓reduceIte, Nat.reduceEqDiff, reduceCtorEq, Nat.reduceLeDiff, Nat.reducePow, Int.reducePow, Int.reduceToNat, Nat.reduceAdd, Int.reduceLT, e1, e2, hz']
      exact ⟨F3, rdV_err⟩
    have hz' : ¬ (l.length : Int) < ((p + 9 : Nat) : Int) := by omega
    rw [if_neg hz] at hone
    have hbl : ((l.take (p + 9)).drop (p + 1)).length = 8 := by simp; omega
    simp (disch := first | omega | assumption) only [C.ref1_Read_gos, vs, Go.Vc.vk, T.ts, ↓reduceIte, Nat.reduceEqDiff, reduceCtorEq, Nat.reduceLeDiff, Nat.reducePow, Int.reducePow, Int.reduceToNat, Nat.reduceAdd, Int.reduceLT, e1, e2, hz', c0, Int.reduceEq, decide_true, decide_false]
    generalize (l.take (p + 9)).drop (p + 1) = bs at *
    refine eff_call_of ?_
    simp (disch := first | omega | assumption) only [C.ref1_Read_gos, vs, Go.Vc.vk, T.ts, ↓reduceIte, Nat.reduceEqDiff, reduceCtorEq, Nat.reduceLeDiff, Nat.reducePow, Int.reducePow, Int.reduceToNat, Nat.reduceAdd]
    refine (rnum_any bs h4 (by omega)).mono ?_
    rintro v5 h5 ⟨rfl, rfl⟩
    generalize numB bs = m at *
    simp (disch := first | omega | assumption) only [C.ref1_Read_gos, vs, Go.Vc.vk, T.ts, ↓reduceIte, Nat.reduceEqDiff, reduceCtorEq, Nat.reduceLeDiff, Nat.reducePow, Int.reducePow, Int.reduceToNat, Nat.reduceAdd]
    refine eff_store1_z T.zr_74 rfl rfl rfl rfl rfl (u := .int .u64 0) (by rw [cellAt_of b3]; rfl) (by simp [frozenAt, b3]) ?_
    have b5 := setAt_get (o := 2) b3 (.int .u64 (m : Int))
    have w5 : Fr (fun k => k = q) h5 (setAt h5 ⟨q, 2, none⟩ (.int .u64 (m : Int))) := Fr.set (S := fun k => k = q) _ _ _ fun _ => rfl
    have F5 : Ext h1 (setAt h5 ⟨q, 2, none⟩ (.int .u64 (m : Int))) := Fr.trans F3 w5 (fun _ _ h => h) (fun k hk hS => by omega)
    have o5 := o3.fr w5 (fun k hk hS => by have := hq k hk; omega)
    change (setAt h5 ⟨q, 2, none⟩ (.int .u64 (m : Int)))[q]? = some (.cells #[.int .u8 5, str [], .int .u64 (m : Int), .int .u16 0, .int .u16 0] 76 (0, 0)) at b5
    generalize setAt h5 ⟨q, 2, none⟩ (.int .u64 (m : Int)) = k5 at *
    simp (disch := first | omega | assumption) only [C.ref1_Read_gos, vs, Go.Vc.vk, T.ts, ↓reduceIte, Nat.reduceEqDiff, reduceCtorEq, Nat.reduceLeDiff, Nat.reducePow, Int.reducePow, Int.reduceToNat, Nat.reduceAdd]
    have hld := ld_agg T.ag_76 (Rd_block (vs := [.int .u8 5, str [], .int .u64 (m : Int), .int .u16 0, .int .u16 0]) b5) rfl
    simp (disch := first | omega | assumption) only [C.ref1_Read_gos, vs, Go.Vc.vk, T.ts, ↓reduceIte, Nat.reduceEqDiff, reduceCtorEq, Nat.reduceLeDiff, Nat.reducePow, Int.reducePow, Int.reduceToNat, Nat.reduceAdd, hld]
    refine eff_lits T.slT_22 rfl rfl (by decide) ?_
    simp (disch := first | omega | assumption) only [C.ref1_Read_gos, vs, Go.Vc.vk, T.ts, ↓reduceIte, Nat.reduceEqDiff, reduceCtorEq, Nat.reduceLeDiff, Nat.reducePow, Int.reducePow, Int.reduceToNat, Nat.reduceAdd]
    refine eff_append_own (m := 1) T.slT_22 rfl rfl (o5.push _) rfl (Rd_new (vs := [.int .u8 5, str [], .int .u64 (m : Int), .int .u16 0, .int .u16 0])) (by simp [oneCell, str]) (by omega) (by omega) (by have := F5.size; simp; omega) ?_
    intro v6 h6 o6 f6 _
    have b6 := Fr_blk f6 (push_blk b5) (fun hk => by have := hq _ hk; omega)
    have F6 : Ext h1 h6 := Ext.app (F5.trans (Ext.push _ _)) f6 (fun k hk => (o5.lt k hk).1)
    have e6 : flatS cs ++ [.int .u8 5, str [], .int .u64 (m : Int), .int .u16 0, .int .u16 0] = flatS (cs ++ [Cst.mk 5 [] m 0 0]) := by simp [flatS, Cst.cells]
    have o7 : Own h6 h1.size 76 5 v6 (cs ++ [Cst.mk 5 [] m 0 0]).length (flatS (cs ++ [Cst.mk 5 [] m 0 0])) := Own_cast o6 (by simp) e6
    have c6 : cellAt h6 ⟨q, 0, none⟩ = some (.int .u8 5) := by rw [cellAt_of b6]; rfl
    have hX := okX hone
    simp only [show bigTwo 5 = true from rfl, if_true, Bool.false_eq_true, if_false] at hX
    clear o6 e6
    have hl2 : (cs ++ [Cst.mk 5 [] m 0 0]).length = cs.length + 1 := by simp
    generalize cs ++ [Cst.mk 5 [] m 0 0] = cs2 at *
    obtain ⟨a6, cc6, rfl, _⟩ := o7.slN.2
    simp (disch := first | omega | assumption) only [C.ref1_Read_gos, vs, Go.Vc.vk, T.ts, ↓reduceIte, Nat.reduceEqDiff, reduceCtorEq, Nat.reduceLeDiff, Nat.reducePow, Int.reducePow, Int.reduceToNat, Nat.reduceAdd, c6, Int.reduceEq, decide_true, decide_false]
    refine eff_lits T.slT_22 rfl rfl (by decide) ?_
    simp (disch := first | omega | assumption) only [C.ref1_Read_gos, vs, Go.Vc.vk, T.ts, ↓reduceIte, Nat.reduceEqDiff, reduceCtorEq, Nat.reduceLeDiff, Nat.reducePow, Int.reducePow, Int.reduceToNat, Nat.reduceAdd]
    refine eff_append_own (m := 1) T.slT_22 rfl rfl (o7.push _) rfl (Rd_new (vs := Cst.zero.cells)) (by simp [oneCell, str, Cst.cells, Cst.zero]) (by omega) (by omega) (by have := F6.size; simp; omega) ?_
    intro v8 h8 o8 f8 _
    have F8 : Ext h1 h8 := Ext.app (F6.trans (Ext.push _ _)) f8 (fun k hk => (o7.lt k hk).1)
    have o9 : Own h8 h1.size 76 5 v8 (cs2 ++ [Cst.zero]).length (flatS (cs2 ++ [Cst.zero])) := Own_cast o8 (by simp) (by rw [flatS_append]; rfl)
    obtain ⟨a8, c8, rfl, _⟩ := o9.slN.2
    have hl8 : (cs2 ++ [Cst.zero]).length = cs.length + 2 := by simp [hl2]
    generalize cs2 ++ [Cst.zero] = cs3 at *
    by_cases hn8 : n < cs.length + 2
    · have hn8' : (n : Int) < (cs3.length : Int) := by omega
      rw [if_pos hn8] at hX
      subst hX
      simp (disch := first | omega | assumption) only [C.ref1_Read_gos, vs, Go.Vc.vk, T.ts, ↓reduceIte, Nat.reduceEqDiff, reduceCtorEq, Nat.reduceLeDiff, Nat.reducePow, Int.reducePow, Int.reduceToNat, Nat.reduceAdd, hn8']
      exact ⟨F8, rdV_err⟩
    · have hn8' : ¬ (n : Int) < (cs3.length : Int) := by omega
      rw [if_neg hn8] at hX
      simp (disch := first | omega | assumption) only [C.ref1_Read_gos, vs, Go.Vc.vk, T.ts, ↓reduceIte, Nat.reduceEqDiff, reduceCtorEq, Nat.reduceLeDiff, Nat.reducePow, Int.reducePow, Int.reduceToNat, Nat.reduceAdd, hn8']
      exact ⟨_, by omega, k, cs3, _, _, rfl, by omega, rfl, F8, o9, hX.symm, by omega, by omega⟩
  by_cases t6 : t = 6
  · subst t6
    rw [show sizeS 6 = 8 from rfl]
    simp only [show sizeS 6 = 8 from rfl, Int.reduceToNat, Int.reduceLT, if_false, Nat.reduceEqDiff, if_true, or_true, true_or, or_false, false_or, Nat.add_assoc, Nat.reduceAdd] at hone
    rw [show ((6 : Nat) : Int) = 6 from rfl] at b3 c0
    have e2 : ((p + 1 : Nat) : Int) + 8 = ((p + 9 : Nat) : Int) := by omega
    by_cases hz : l.length < p + 9
    · have hz' : (l.length : Int) < ((p + 9 : Nat) : Int) := by omega
      rw [if_pos hz] at hone
      rw [errX hone]
      simp (disch := first | omega | assumption) only [C.ref1_Read_gos, vs, Go.Vc.vk, T.ts, ↓reduceIte, Nat.reduceEqDiff, reduceCtorEq, Nat.reduceLeDiff, Nat.reducePow, Int.reducePow, Int.reduceToNat, Nat.reduceAdd, Int.reduceLT, e1, e2, hz']
      exact ⟨F3, rdV_err⟩
    have hz' : ¬ (l.length : Int) < ((p + 9 : Nat) : Int) := by omega
    rw [if_neg hz] at hone
    have hbl : ((l.take (p + 9)).drop (p + 1)).length = 8 := by simp; omega
    simp (disch := first | omega | assumption) only [C.ref1_Read_gos, vs, Go.Vc.vk, T.ts, ↓reduceIte, Nat.reduceEqDiff, reduceCtorEq, Nat.reduceLeDiff, Nat.reducePow, Int.reducePow, Int.reduceToNat, Nat.reduceAdd, Int.reduceLT, e1, e2, hz', c0, Int.reduceEq, decide_true, decide_false]
    generalize (l.take (p + 9)).drop (p + 1) = bs at *
    refine eff_call_of ?_
    simp (disch := first | omega | assumption) only [C.ref1_Read_gos, vs, Go.Vc.vk, T.ts, ↓reduceIte, Nat.reduceEqDiff, reduceCtorEq, Nat.reduceLeDiff, Nat.reducePow, Int.reducePow, Int.reduceToNat, Nat.reduceAdd]
    refine (rnum_any bs h4 (by omega)).mono ?_
    rintro v5 h5 ⟨rfl, rfl⟩
    generalize numB bs = m at *
    simp (disch := first | omega | assumption) only [C.ref1_Read_gos, vs, Go.Vc.vk, T.ts, ↓reduceIte, Nat.reduceEqDiff, reduceCtorEq, Nat.reduceLeDiff, Nat.reducePow, Int.reducePow, Int.reduceToNat, Nat.reduceAdd]
    refine eff_store1_z T.zr_74 rfl rfl rfl rfl rfl (u := .int .u64 0) (by rw [cellAt_of b3]; rfl) (by simp [frozenAt, b3]) ?_
    have b5 := setAt_get (o := 2) b3 (.int .u64 (m : Int))
    have w5 : Fr (fun k => k = q) h5 (setAt h5 ⟨q, 2, none⟩ (.int .u64 (m : Int))) := Fr.set (S := fun k => k = q) _ _ _ fun _ => rfl
    have F5 : Ext h1 (setAt h5 ⟨q, 2, none⟩ (.int .u64 (m : Int))) := Fr.trans F3 w5 (fun _ _ h => h) (fun k hk hS => by omega)
    have o5 := o3.fr w5 (fun k hk hS => by have := hq k hk; omega)
    change (setAt h5 ⟨q, 2, none⟩ (.int .u64 (m : Int)))[q]? = some (.cells #[.int .u8 6, str [], .int .u64 (m : Int), .int .u16 0, .int .u16 0] 76 (0, 0)) at b5
    generalize setAt h5 ⟨q, 2, none⟩ (.int .u64 (m : Int)) = k5 at *
    simp (disch := first | omega | assumption) only [C.ref1_Read_gos, vs, Go.Vc.vk, T.ts, ↓reduceIte, Nat.reduceEqDiff, reduceCtorEq, Nat.reduceLeDiff, Nat.reducePow, Int.reducePow, Int.reduceToNat, Nat.reduceAdd]
    have hld := ld_agg T.ag_76 (Rd_block (vs := [.int .u8 6, str [], .int .u64 (m : Int), .int .u16 0, .int .u16 0]) b5) rfl
    simp (disch := first | omega | assumption) only [C.ref1_Read_gos, vs, Go.Vc.vk, T.ts, ↓reduceIte, Nat.reduceEqDiff, reduceCtorEq, Nat.reduceLeDiff, Nat.reducePow, Int.reducePow, Int.reduceToNat, Nat.reduceAdd, hld]
    refine eff_lits T.slT_22 rfl rfl (by decide) ?_
    simp (disch := first | omega | assumption) only [C.ref1_Read_gos, vs, Go.Vc.vk, T.ts, ↓reduceIte, Nat.reduceEqDiff, reduceCtorEq, Nat.reduceLeDiff, Nat.reducePow, Int.reducePow, Int.reduceToNat, Nat.reduceAdd]
    refine eff_append_own (m := 1) T.slT_22 rfl rfl (o5.push _) rfl (Rd_new (vs := [.int .u8 6, str [], .int .u64 (m : Int), .int .u16 0, .int .u16 0])) (by simp [oneCell, str]) (by omega) (by omega) (by have := F5.size; simp; omega) ?_
    intro v6 h6 o6 f6 _
    have b6 := Fr_blk f6 (push_blk b5) (fun hk => by have := hq _ hk; omega)
    have F6 : Ext h1 h6 := Ext.app (F5.trans (Ext.push _ _)) f6 (fun k hk => (o5.lt k hk).1)
    have e6 : flatS cs ++ [.int .u8 6, str [], .int .u64 (m : Int), .int .u16 0, .int .u16 0] = flatS (cs ++ [Cst.mk 6 [] m 0 0]) := by simp [flatS, Cst.cells]
    have o7 : Own h6 h1.size 76 5 v6 (cs ++ [Cst.mk 6 [] m 0 0]).length (flatS (cs ++ [Cst.mk 6 [] m 0 0])) := Own_cast o6 (by simp) e6
    have c6 : cellAt h6 ⟨q, 0, none⟩ = some (.int .u8 6) := by rw [cellAt_of b6]; rfl
    have hX := okX hone
    simp only [show bigTwo 6 = true from rfl, if_true, Bool.false_eq_true, if_false] at hX
    clear o6 e6
    have hl2 : (cs ++ [Cst.mk 6 [] m 0 0]).length = cs.length + 1 := by simp
    generalize cs ++ [Cst.mk 6 [] m 0 0] = cs2 at *
    obtain ⟨a6, cc6, rfl, _⟩ := o7.slN.2
    simp (disch := first | omega | assumption) only [C.ref1_Read_gos, vs, Go.Vc.vk, T.ts, ↓reduceIte, Nat.reduceEqDiff, reduceCtorEq, Nat.reduceLeDiff, Nat.reducePow, Int.reducePow, Int.reduceToNat, Nat.reduceAdd, c6, Int.reduceEq, decide_true, decide_false]
    refine eff_lits T.slT_22 rfl rfl (by decide) ?_
    simp (disch := first | omega | assumption) only [C.ref1_Read_gos, vs, Go.Vc.vk, T.ts, ↓reduceIte, Nat.reduceEqDiff, reduceCtorEq, Nat.reduceLeDiff, Nat.reducePow, Int.reducePow, Int.reduceToNat, Nat.reduceAdd]
    refine eff_append_own (m := 1) T.slT_22 rfl rfl (o7.push _) rfl (Rd_new (vs := Cst.zero.cells)) (by simp [oneCell, str, Cst.cells, Cst.zero]) (by omega) (by omega) (by have := F6.size; simp; omega) ?_
    intro v8 h8 o8 f8 _
    have F8 : Ext h1 h8 := Ext.app (F6.trans (Ext.push _ _)) f8 (fun k hk => (o7.lt k hk).1)
    have o9 : Own h8 h1.size 76 5 v8 (cs2 ++ [Cst.zero]).length (flatS (cs2 ++ [Cst.zero])) := Own_cast o8 (by simp) (by rw [flatS_append]; rfl)
    obtain ⟨a8, c8, rfl, _⟩ := o9.slN.2
    have hl8 : (cs2 ++ [Cst.zero]).length = cs.length + 2 := by simp [hl2]
    generalize cs2 ++ [Cst.zero] = cs3 at *
    by_cases hn8 : n < cs.length + 2
    · have hn8' : (n : Int) < (cs3.length : Int) := by omega
      rw [if_pos hn8] at hX
      subst hX
      simp (disch := first | omega | assumption) only [C.ref1_Read_gos, vs, Go.Vc.vk, T.ts, ↓reduceIte, Nat.reduceEqDiff, reduceCtorEq, Nat.reduceLeDiff, Nat.reducePow, Int.reducePow, Int.reduceToNat, Nat.reduceAdd, hn8']
      exact ⟨F8, rdV_err⟩
    · have hn8' : ¬ (n : Int) < (cs3.length : Int) := by omega
      rw [if_neg hn8] at hX
      simp (disch := first | omega | assumption) only [C.ref1_Read_gos, vs, Go.Vc.vk, T.ts, ↓reduceIte, Nat.reduceEqDiff, reduceCtorEq, Nat.reduceLeDiff, Nat.reducePow, Int.reducePow, Int.reduceToNat, Nat.reduceAdd, hn8']
      exact ⟨_, by omega, k, cs3, _, _, rfl, by omega, rfl, F8, o9, hX.symm, by omega, by omega⟩
  by_cases t7 : t = 7
  · subst t7
    rw [show sizeS 7 = 2 from rfl]
    simp only [show sizeS 7 = 2 from rfl, Int.reduceToNat, Int.reduceLT, if_false, Nat.reduceEqDiff, if_true, or_true, true_or, or_false, false_or, Nat.add_assoc, Nat.reduceAdd] at hone
    rw [show ((7 : Nat) : Int) = 7 from rfl] at b3 c0
    have e2 : ((p + 1 : Nat) : Int) + 2 = ((p + 3 : Nat) : Int) := by omega
    by_cases hz : l.length < p + 3
    · have hz' : (l.length : Int) < ((p + 3 : Nat) : Int) := by omega
      rw [if_pos hz] at hone
      rw [errX hone]
      simp (disch := first | omega | assumption) only [C.ref1_Read_gos, vs, Go.Vc.vk, T.ts, ↓reduceIte, Nat.reduceEqDiff, reduceCtorEq, Nat.reduceLeDiff, Nat.reducePow, Int.reducePow, Int.reduceToNat, Nat.reduceAdd, Int.reduceLT, e1, e2, hz']
      exact ⟨F3, rdV_err⟩
    have hz' : ¬ (l.length : Int) < ((p + 3 : Nat) : Int) := by omega
    rw [if_neg hz] at hone
    have hbl : ((l.take (p + 3)).drop (p + 1)).length = 2 := by simp; omega
    simp (disch := first | omega | assumption) only [C.ref1_Read_gos, vs, Go.Vc.vk, T.ts, ↓reduceIte, Nat.reduceEqDiff, reduceCtorEq, Nat.reduceLeDiff, Nat.reducePow, Int.reducePow, Int.reduceToNat, Nat.reduceAdd, Int.reduceLT, e1, e2, hz', c0, Int.reduceEq, decide_true, decide_false]
    generalize (l.take (p + 3)).drop (p + 1) = bs at *
    refine eff_call_of ?_
    simp (disch := first | omega | assumption) only [C.ref1_Read_gos, vs, Go.Vc.vk, T.ts, ↓reduceIte, Nat.reduceEqDiff, reduceCtorEq, Nat.reduceLeDiff, Nat.reducePow, Int.reducePow, Int.reduceToNat, Nat.reduceAdd]
    refine (rnum_any bs h4 (by omega)).mono ?_
    rintro v5 h5 ⟨rfl, rfl⟩
    have hb : numB bs < 65536 := by have := numB_lt bs; rw [hbl] at this; exact this
    generalize numB bs = m at *
    simp (disch := first | omega | assumption) only [C.ref1_Read_gos, vs, Go.Vc.vk, T.ts, ↓reduceIte, Nat.reduceEqDiff, reduceCtorEq, Nat.reduceLeDiff, Nat.reducePow, Int.reducePow, Int.reduceToNat, Nat.reduceAdd]
    refine eff_store1_z T.zr_38 rfl rfl rfl rfl rfl (u := .int .u16 0) (by rw [cellAt_of b3]; rfl) (by simp [frozenAt, b3]) ?_
    have b5 := setAt_get (o := 3) b3 (.int .u16 (m : Int))
    have w5 : Fr (fun k => k = q) h5 (setAt h5 ⟨q, 3, none⟩ (.int .u16 (m : Int))) := Fr.set (S := fun k => k = q) _ _ _ fun _ => rfl
    have F5 : Ext h1 (setAt h5 ⟨q, 3, none⟩ (.int .u16 (m : Int))) := Fr.trans F3 w5 (fun _ _ h => h) (fun k hk hS => by omega)
    have o5 := o3.fr w5 (fun k hk hS => by have := hq k hk; omega)
    change (setAt h5 ⟨q, 3, none⟩ (.int .u16 (m : Int)))[q]? = some (.cells #[.int .u8 7, str [], .int .u64 0, .int .u16 (m : Int), .int .u16 0] 76 (0, 0)) at b5
    generalize setAt h5 ⟨q, 3, none⟩ (.int .u16 (m : Int)) = k5 at *
    simp (disch := first | omega | assumption) only [C.ref1_Read_gos, vs, Go.Vc.vk, T.ts, ↓reduceIte, Nat.reduceEqDiff, reduceCtorEq, Nat.reduceLeDiff, Nat.reducePow, Int.reducePow, Int.reduceToNat, Nat.reduceAdd]
    have hld := ld_agg T.ag_76 (Rd_block (vs := [.int .u8 7, str [], .int .u64 0, .int .u16 (m : Int), .int .u16 0]) b5) rfl
    simp (disch := first | omega | assumption) only [C.ref1_Read_gos, vs, Go.Vc.vk, T.ts, ↓reduceIte, Nat.reduceEqDiff, reduceCtorEq, Nat.reduceLeDiff, Nat.reducePow, Int.reducePow, Int.reduceToNat, Nat.reduceAdd, hld]
    refine eff_lits T.slT_22 rfl rfl (by decide) ?_
    simp (disch := first | omega | assumption) only [C.ref1_Read_gos, vs, Go.Vc.vk, T.ts, ↓reduceIte, Nat.reduceEqDiff, reduceCtorEq, Nat.reduceLeDiff, Nat.reducePow, Int.reducePow, Int.reduceToNat, Nat.reduceAdd]
    refine eff_append_own (m := 1) T.slT_22 rfl rfl (o5.push _) rfl (Rd_new (vs := [.int .u8 7, str [], .int .u64 0, .int .u16 (m : Int), .int .u16 0])) (by simp [oneCell, str]) (by omega) (by omega) (by have := F5.size; simp; omega) ?_
    intro v6 h6 o6 f6 _
    have b6 := Fr_blk f6 (push_blk b5) (fun hk => by have := hq _ hk; omega)
    have F6 : Ext h1 h6 := Ext.app (F5.trans (Ext.push _ _)) f6 (fun k hk => (o5.lt k hk).1)
    have e6 : flatS cs ++ [.int .u8 7, str [], .int .u64 0, .int .u16 (m : Int), .int .u16 0] = flatS (cs ++ [Cst.mk 7 [] 0 m 0]) := by simp [flatS, Cst.cells]
    have o7 : Own h6 h1.size 76 5 v6 (cs ++ [Cst.mk 7 [] 0 m 0]).length (flatS (cs ++ [Cst.mk 7 [] 0 m 0])) := Own_cast o6 (by simp) e6
    have c6 : cellAt h6 ⟨q, 0, none⟩ = some (.int .u8 7) := by rw [cellAt_of b6]; rfl
    have hX := okX hone
    simp only [show bigTwo 7 = false from rfl, if_true, Bool.false_eq_true, if_false] at hX
    clear o6 e6
    have hl2 : (cs ++ [Cst.mk 7 [] 0 m 0]).length = cs.length + 1 := by simp
    generalize cs ++ [Cst.mk 7 [] 0 m 0] = cs2 at *
    obtain ⟨a6, cc6, rfl, _⟩ := o7.slN.2
    simp (disch := first | omega | assumption) only [C.ref1_Read_gos, vs, Go.Vc.vk, T.ts, ↓reduceIte, Nat.reduceEqDiff, reduceCtorEq, Nat.reduceLeDiff, Nat.reducePow, Int.reducePow, Int.reduceToNat, Nat.reduceAdd, c6, Int.reduceEq, decide_true, decide_false]
    exact ⟨_, by omega, k, cs2, _, _, rfl, by omega, rfl, F6, o7, hX.symm, by omega, by omega⟩
  by_cases t8 : t = 8
  · subst t8
    rw [show sizeS 8 = 2 from rfl]
    simp only [show sizeS 8 = 2 from rfl, Int.reduceToNat, Int.reduceLT, if_false, Nat.reduceEqDiff, if_true, or_true, true_or, or_false, false_or, Nat.add_assoc, Nat.reduceAdd] at hone
    rw [show ((8 : Nat) : Int) = 8 from rfl] at b3 c0
    have e2 : ((p + 1 : Nat) : Int) + 2 = ((p + 3 : Nat) : Int) := by omega
    by_cases hz : l.length < p + 3
    · have hz' : (l.length : Int) < ((p + 3 : Nat) : Int) := by omega
      rw [if_pos hz] at hone
      rw [errX hone]
      simp (disch := first | omega | assumption) only [C.ref1_Read_gos, vs, Go.Vc.vk, T.ts, ↓reduceIte, Nat.reduceEqDiff, reduceCtorEq, Nat.reduceLeDiff, Nat.reducePow, Int.reducePow, Int.reduceToNat, Nat.reduceAdd, Int.reduceLT, e1, e2, hz']
      exact ⟨F3, rdV_err⟩
    have hz' : ¬ (l.length : Int) < ((p + 3 : Nat) : Int) := by omega
    rw [if_neg hz] at hone
    have hbl : ((l.take (p + 3)).drop (p + 1)).length = 2 := by simp; omega
    simp (disch := first | omega | assumption) only [C.ref1_Read_gos, vs, Go.Vc.vk, T.ts, ↓reduceIte, Nat.reduceEqDiff, reduceCtorEq, Nat.reduceLeDiff, Nat.reducePow, Int.reducePow, Int.reduceToNat, Nat.reduceAdd, Int.reduceLT, e1, e2, hz', c0, Int.reduceEq, decide_true, decide_false]
    generalize (l.take (p + 3)).drop (p + 1) = bs at *
    refine eff_call_of ?_
    simp (disch := first | omega | assumption) only [C.ref1_Read_gos, vs, Go.Vc.vk, T.ts, ↓reduceIte, Nat.reduceEqDiff, reduceCtorEq, Nat.reduceLeDiff, Nat.reducePow, Int.reducePow, Int.reduceToNat, Nat.reduceAdd]
    refine (rnum_any bs h4 (by omega)).mono ?_
    rintro v5 h5 ⟨rfl, rfl⟩
    have hb : numB bs < 65536 := by have := numB_lt bs; rw [hbl] at this; exact this
    generalize numB bs = m at *
    simp (disch := first | omega | assumption) only [C.ref1_Read_gos, vs, Go.Vc.vk, T.ts, ↓reduceIte, Nat.reduceEqDiff, reduceCtorEq, Nat.reduceLeDiff, Nat.reducePow, Int.reducePow, Int.reduceToNat, Nat.reduceAdd]
    refine eff_store1_z T.zr_38 rfl rfl rfl rfl rfl (u := .int .u16 0) (by rw [cellAt_of b3]; rfl) (by simp [frozenAt, b3]) ?_
    have b5 := setAt_get (o := 3) b3 (.int .u16 (m : Int))
    have w5 : Fr (fun k => k = q) h5 (setAt h5 ⟨q, 3, none⟩ (.int .u16 (m : Int))) := Fr.set (S := fun k => k = q) _ _ _ fun _ => rfl
    have F5 : Ext h1 (setAt h5 ⟨q, 3, none⟩ (.int .u16 (m : Int))) := Fr.trans F3 w5 (fun _ _ h => h) (fun k hk hS => by omega)
    have o5 := o3.fr w5 (fun k hk hS => by have := hq k hk; omega)
    change (setAt h5 ⟨q, 3, none⟩ (.int .u16 (m : Int)))[q]? = some (.cells #[.int .u8 8, str [], .int .u64 0, .int .u16 (m : Int), .int .u16 0] 76 (0, 0)) at b5
    generalize setAt h5 ⟨q, 3, none⟩ (.int .u16 (m : Int)) = k5 at *
    simp (disch := first | omega | assumption) only [C.ref1_Read_gos, vs, Go.Vc.vk, T.ts, ↓reduceIte, Nat.reduceEqDiff, reduceCtorEq, Nat.reduceLeDiff, Nat.reducePow, Int.reducePow, Int.reduceToNat, Nat.reduceAdd]
    have hld := ld_agg T.ag_76 (Rd_block (vs := [.int .u8 8, str [], .int .u64 0, .int .u16 (m : Int), .int .u16 0]) b5) rfl
    simp (disch := first | omega | assumption) only [C.ref1_Read_gos, vs, Go.Vc.vk, T.ts, ↓reduceIte, Nat.reduceEqDiff, reduceCtorEq, Nat.reduceLeDiff, Nat.reducePow, Int.reducePow, Int.reduceToNat, Nat.reduceAdd, hld]
    refine eff_lits T.slT_22 rfl rfl (by decide) ?_
    simp (disch := first | omega | assumption) only [C.ref1_Read_gos, vs, Go.Vc.vk, T.ts, ↓reduceIte, Nat.reduceEqDiff, reduceCtorEq, Nat.reduceLeDiff, Nat.reducePow, Int.reducePow, Int.reduceToNat, Nat.reduceAdd]
    refine eff_append_own (m := 1) T.slT_22 rfl rfl (o5.push _) rfl (Rd_new (vs := [.int .u8 8, str [], .int .u64 0, .int .u16 (m : Int), .int .u16 0])) (by simp [oneCell, str]) (by omega) (by omega) (by have := F5.size; simp; omega) ?_
    intro v6 h6 o6 f6 _
    have b6 := Fr_blk f6 (push_blk b5) (fun hk => by have := hq _ hk; omega)
    have F6 : Ext h1 h6 := Ext.app (F5.trans (Ext.push _ _)) f6 (fun k hk => (o5.lt k hk).1)
    have e6 : flatS cs ++ [.int .u8 8, str [], .int .u64 0, .int .u16 (m : Int), .int .u16 0] = flatS (cs ++ [Cst.mk 8 [] 0 m 0]) := by simp [flatS, Cst.cells]
    have o7 : Own h6 h1.size 76 5 v6 (cs ++ [Cst.mk 8 [] 0 m 0]).length (flatS (cs ++ [Cst.mk 8 [] 0 m 0])) := Own_cast o6 (by simp) e6
    have c6 : cellAt h6 ⟨q, 0, none⟩ = some (.int .u8 8) := by rw [cellAt_of b6]; rfl
    have hX := okX hone
    simp only [show bigTwo 8 = false from rfl, if_true, Bool.false_eq_true, if_false] at hX
    clear o6 e6
    have hl2 : (cs ++ [Cst.mk 8 [] 0 m 0]).length = cs.length + 1 := by simp
    generalize cs ++ [Cst.mk 8 [] 0 m 0] = cs2 at *
    obtain ⟨a6, cc6, rfl, _⟩ := o7.slN.2
    simp (disch := first | omega | assumption) only [C.ref1_Read_gos, vs, Go.Vc.vk, T.ts, ↓reduceIte, Nat.reduceEqDiff, reduceCtorEq, Nat.reduceLeDiff, Nat.reducePow, Int.reducePow, Int.reduceToNat, Nat.reduceAdd, c6, Int.reduceEq, decide_true, decide_false]
    exact ⟨_, by omega, k, cs2, _, _, rfl, by omega, rfl, F6, o7, hX.symm, by omega, by omega⟩
  by_cases t9 : t = 9
  · subst t9
    rw [show sizeS 9 = 4 from rfl]
    simp only [show sizeS 9 = 4 from rfl, Int.reduceToNat, Int.reduceLT, if_false, Nat.reduceEqDiff, if_true, or_true, true_or, or_false, false_or, Nat.add_assoc, Nat.reduceAdd] at hone
    rw [show ((9 : Nat) : Int) = 9 from rfl] at b3 c0
    have e2 : ((p + 1 : Nat) : Int) + 4 = ((p + 5 : Nat) : Int) := by omega
    by_cases hz : l.length < p + 5
    · have hz' : (l.length : Int) < ((p + 5 : Nat) : Int) := by omega
      rw [if_pos hz] at hone
      rw [errX hone]
      simp (disch := first | omega | assumption) only [C.ref1_Read_gos, vs, Go.Vc.vk, T.ts, ↓reduceIte, Nat.reduceEqDiff, reduceCtorEq, Nat.reduceLeDiff, Nat.reducePow, Int.reducePow, Int.reduceToNat, Nat.reduceAdd, Int.reduceLT, e1, e2, hz']
      exact ⟨F3, rdV_err⟩
    have hz' : ¬ (l.length : Int) < ((p + 5 : Nat) : Int) := by omega
    rw [if_neg hz] at hone
    have hbl : ((l.take (p + 5)).drop (p + 1)).length = 4 := by simp; omega
    simp (disch := first | omega | assumption) only [C.ref1_Read_gos, vs, Go.Vc.vk, T.ts, ↓reduceIte, Nat.reduceEqDiff, reduceCtorEq, Nat.reduceLeDiff, Nat.reducePow, Int.reducePow, Int.reduceToNat, Nat.reduceAdd, Int.reduceLT, e1, e2, hz', c0, Int.reduceEq, decide_true, decide_false]
    generalize (l.take (p + 5)).drop (p + 1) = bs at *
    refine eff_call_of ?_
    simp (disch := first | omega | assumption) only [C.ref1_Read_gos, vs, Go.Vc.vk, T.ts, ↓reduceIte, Nat.reduceEqDiff, reduceCtorEq, Nat.reduceLeDiff, Nat.reducePow, Int.reducePow, Int.reduceToNat, Nat.reduceAdd, Int.reduceToNat]
    have hb1 : (bs.take 2).length = 2 := by simp; omega
    have hb2 : (bs.drop 2).length = 2 := by simp; omega
    refine (rnum_any (bs.take 2) h4 (by omega)).mono ?_
    rintro v5 h5 ⟨rfl, rfl⟩
    have hb : numB (bs.take 2) < 65536 := by have := numB_lt (bs.take 2); rw [hb1] at this; exact this
    have hb' : numB (bs.drop 2) < 65536 := by have := numB_lt (bs.drop 2); rw [hb2] at this; exact this
    generalize numB (bs.take 2) = m at *
    simp (disch := first | omega | assumption) only [C.ref1_Read_gos, vs, Go.Vc.vk, T.ts, ↓reduceIte, Nat.reduceEqDiff, reduceCtorEq, Nat.reduceLeDiff, Nat.reducePow, Int.reducePow, Int.reduceToNat, Nat.reduceAdd]
    refine eff_store1_z T.zr_38 rfl rfl rfl rfl rfl (u := .int .u16 0) (by rw [cellAt_of b3]; rfl) (by simp [frozenAt, b3]) ?_
    have b5 := setAt_get (o := 3) b3 (.int .u16 (m : Int))
    have w5 : Fr (fun k => k = q) h5 (setAt h5 ⟨q, 3, none⟩ (.int .u16 (m : Int))) := Fr.set (S := fun k => k = q) _ _ _ fun _ => rfl
    have F5 : Ext h1 (setAt h5 ⟨q, 3, none⟩ (.int .u16 (m : Int))) := Fr.trans F3 w5 (fun _ _ h => h) (fun k hk hS => by omega)
    have o5 := o3.fr w5 (fun k hk hS => by have := hq k hk; omega)
    change (setAt h5 ⟨q, 3, none⟩ (.int .u16 (m : Int)))[q]? = some (.cells #[.int .u8 9, str [], .int .u64 0, .int .u16 (m : Int), .int .u16 0] 76 (0, 0)) at b5
    generalize setAt h5 ⟨q, 3, none⟩ (.int .u16 (m : Int)) = k5 at *
    have hb3 : (2 : Int) ≤ bs.length := by omega
    simp (disch := first | omega | assumption) only [C.ref1_Read_gos, vs, Go.Vc.vk, T.ts, ↓reduceIte, Nat.reduceEqDiff, reduceCtorEq, Nat.reduceLeDiff, Nat.reducePow, Int.reducePow, Int.reduceToNat, Nat.reduceAdd, Int.reduceToNat, hb3]
    refine eff_call_of ?_
    simp (disch := first | omega | assumption) only [C.ref1_Read_gos, vs, Go.Vc.vk, T.ts, ↓reduceIte, Nat.reduceEqDiff, reduceCtorEq, Nat.reduceLeDiff, Nat.reducePow, Int.reducePow, Int.reduceToNat, Nat.reduceAdd, Int.reduceToNat]
    refine (rnum_any (bs.drop 2) k5 (by omega)).mono ?_
    rintro v6 h6 ⟨rfl, rfl⟩
    generalize numB (bs.drop 2) = m2 at *
    simp (disch := first | omega | assumption) only [C.ref1_Read_gos, vs, Go.Vc.vk, T.ts, ↓reduceIte, Nat.reduceEqDiff, reduceCtorEq, Nat.reduceLeDiff, Nat.reducePow, Int.reducePow, Int.reduceToNat, Nat.reduceAdd]
    refine eff_store1_z T.zr_38 rfl rfl rfl rfl rfl (u := .int .u16 0) (by rw [cellAt_of b5]; rfl) (by simp [frozenAt, b5]) ?_
    have b7 := setAt_get (o := 4) b5 (.int .u16 (m2 : Int))
    have w7 : Fr (fun k => k = q) h6 (setAt h6 ⟨q, 4, none⟩ (.int .u16 (m2 : Int))) := Fr.set (S := fun k => k = q) _ _ _ fun _ => rfl
    have F7 : Ext h1 (setAt h6 ⟨q, 4, none⟩ (.int .u16 (m2 : Int))) := Fr.trans F5 w7 (fun _ _ h => h) (fun k hk hS => by omega)
    have o7 := o5.fr w7 (fun k hk hS => by have := hq k hk; omega)
    change (setAt h6 ⟨q, 4, none⟩ (.int .u16 (m2 : Int)))[q]? = some (.cells #[.int .u8 9, str [], .int .u64 0, .int .u16 (m : Int), .int .u16 (m2 : Int)] 76 (0, 0)) at b7
    generalize setAt h6 ⟨q, 4, none⟩ (.int .u16 (m2 : Int)) = k7 at *
    simp (disch := first | omega | assumption) only [C.ref1_Read_gos, vs, Go.Vc.vk, T.ts, ↓reduceIte, Nat.reduceEqDiff, reduceCtorEq, Nat.reduceLeDiff, Nat.reducePow, Int.reducePow, Int.reduceToNat, Nat.reduceAdd]
    have hld := ld_agg T.ag_76 (Rd_block (vs := [.int .u8 9, str [], .int .u64 0, .int .u16 (m : Int), .int .u16 (m2 : Int)]) b7) rfl
    simp (disch := first | omega | assumption) only [C.ref1_Read_gos, vs, Go.Vc.vk, T.ts, ↓reduceIte, Nat.reduceEqDiff, reduceCtorEq, Nat.reduceLeDiff, Nat.reducePow, Int.reducePow, Int.reduceToNat, Nat.reduceAdd, hld]
    refine eff_lits T.slT_22 rfl rfl (by decide) ?_
    simp (disch := first | omega | assumption) only [C.ref1_Read_gos, vs, Go.Vc.vk, T.ts, ↓reduceIte, Nat.reduceEqDiff, reduceCtorEq, Nat.reduceLeDiff, Nat.reducePow, Int.reducePow, Int.reduceToNat, Nat.reduceAdd]
    refine eff_append_own (m := 1) T.slT_22 rfl rfl (o7.push _) rfl (Rd_new (vs := [.int .u8 9, str [], .int .u64 0, .int .u16 (m : Int), .int .u16 (m2 : Int)])) (by simp [oneCell, str]) (by omega) (by omega) (by have := F7.size; simp; omega) ?_
    intro v6 h6 o6 f6 _
    have b6 := Fr_blk f6 (push_blk b7) (fun hk => by have := hq _ hk; omega)
    have F6 : Ext h1 h6 := Ext.app (F7.trans (Ext.push _ _)) f6 (fun k hk => (o7.lt k hk).1)
    have e6 : flatS cs ++ [.int .u8 9, str [], .int .u64 0, .int .u16 (m : Int), .int .u16 (m2 : Int)] = flatS (cs ++ [Cst.mk 9 [] 0 m m2]) := by simp [flatS, Cst.cells]
    have o7 : Own h6 h1.size 76 5 v6 (cs ++ [Cst.mk 9 [] 0 m m2]).length (flatS (cs ++ [Cst.mk 9 [] 0 m m2])) := Own_cast o6 (by simp) e6
    have c6 : cellAt h6 ⟨q, 0, none⟩ = some (.int .u8 9) := by rw [cellAt_of b6]; rfl
    have hX := okX hone
    simp only [show bigTwo 9 = false from rfl, if_true, Bool.false_eq_true, if_false] at hX
    clear o6 e6
    have hl2 : (cs ++ [Cst.mk 9 [] 0 m m2]).length = cs.length + 1 := by simp
    generalize cs ++ [Cst.mk 9 [] 0 m m2] = cs2 at *
    obtain ⟨a6, cc6, rfl, _⟩ := o7.slN.2
    simp (disch := first | omega | assumption) only [C.ref1_Read_gos, vs, Go.Vc.vk, T.ts, ↓reduceIte, Nat.reduceEqDiff, reduceCtorEq, Nat.reduceLeDiff, Nat.reducePow, Int.reducePow, Int.reduceToNat, Nat.reduceAdd, c6, Int.reduceEq, decide_true, decide_false]
    exact ⟨_, by omega, k, cs2, _, _, rfl, by omega, rfl, F6, o7, hX.symm, by omega, by omega⟩
  by_cases t10 : t = 10
  · subst t10
    rw [show sizeS 10 = 4 from rfl]
    simp only [show sizeS 10 = 4 from rfl, Int.reduceToNat, Int.reduceLT, if_false, Nat.reduceEqDiff, if_true, or_true, true_or, or_false, false_or, Nat.add_assoc, Nat.reduceAdd] at hone
    rw [show ((10 : Nat) : Int) = 10 from rfl] at b3 c0
    have e2 : ((p + 1 : Nat) : Int) + 4 = ((p + 5 : Nat) : Int) := by omega
    by_cases hz : l.length < p + 5
    · have hz' : (l.length : Int) < ((p + 5 : Nat) : Int) := by omega
      rw [if_pos hz] at hone
      rw [errX hone]
      simp (disch := first | omega | assumption) only [C.ref1_Read_gos, vs, Go.Vc.vk, T.ts, ↓reduceIte, Nat.reduceEqDiff, reduceCtorEq, Nat.reduceLeDiff, Nat.reducePow, Int.reducePow, Int.reduceToNat, Nat.reduceAdd, Int.reduceLT, e1, e2, hz']
      exact ⟨F3, rdV_err⟩
    have hz' : ¬ (l.length : Int) < ((p + 5 : Nat) : Int) := by omega
    rw [if_neg hz] at hone
    have hbl : ((l.take (p + 5)).drop (p + 1)).length = 4 := by simp; omega
    simp (disch := first | omega | assumption) only [C.ref1_Read_gos, vs, Go.Vc.vk, T.ts, ↓reduceIte, Nat.reduceEqDiff, reduceCtorEq, Nat.reduceLeDiff, Nat.reducePow, Int.reducePow, Int.reduceToNat, Nat.reduceAdd, Int.reduceLT, e1, e2, hz', c0, Int.reduceEq, decide_true, decide_false]
    generalize (l.take (p + 5)).drop (p + 1) = bs at *
    refine eff_call_of ?_
    simp (disch := first | omega | assumption) only [C.ref1_Read_gos, vs, Go.Vc.vk, T.ts, ↓reduceIte, Nat.reduceEqDiff, reduceCtorEq, Nat.reduceLeDiff, Nat.reducePow, Int.reducePow, Int.reduceToNat, Nat.reduceAdd, Int.reduceToNat]
    have hb1 : (bs.take 2).length = 2 := by simp; omega
    have hb2 : (bs.drop 2).length = 2 := by simp; omega
    refine (rnum_any (bs.take 2) h4 (by omega)).mono ?_
    rintro v5 h5 ⟨rfl, rfl⟩
    have hb : numB (bs.take 2) < 65536 := by have := numB_lt (bs.take 2); rw [hb1] at this; exact this
    have hb' : numB (bs.drop 2) < 65536 := by have := numB_lt (bs.drop 2); rw [hb2] at this; exact this
    generalize numB (bs.take 2) = m at *
    simp (disch := first | omega | assumption) only [C.ref1_Read_gos, vs, Go.Vc.vk, T.ts, ↓reduceIte, Nat.reduceEqDiff, reduceCtorEq, Nat.reduceLeDiff, Nat.reducePow, Int.reducePow, Int.reduceToNat, Nat.reduceAdd]
    refine eff_store1_z T.zr_38 rfl rfl rfl rfl rfl (u := .int .u16 0) (by rw [cellAt_of b3]; rfl) (by simp [frozenAt, b3]) ?_
    have b5 := setAt_get (o := 3) b3 (.int .u16 (m : Int))
    have w5 : Fr (fun k => k = q) h5 (setAt h5 ⟨q, 3, none⟩ (.int .u16 (m : Int))) := Fr.set (S := fun k => k = q) _ _ _ fun _ => rfl
    have F5 : Ext h1 (setAt h5 ⟨q, 3, none⟩ (.int .u16 (m : Int))) := Fr.trans F3 w5 (fun _ _ h => h) (fun k hk hS => by omega)
    have o5 := o3.fr w5 (fun k hk hS => by have := hq k hk; omega)
    change (setAt h5 ⟨q, 3, none⟩ (.int .u16 (m : Int)))[q]? = some (.cells #[.int .u8 10, str [], .int .u64 0, .int .u16 (m : Int), .int .u16 0] 76 (0, 0)) at b5
    generalize setAt h5 ⟨q, 3, none⟩ (.int .u16 (m : Int)) = k5 at *
    have hb3 : (2 : Int) ≤ bs.length := by omega
    simp (disch := first | omega | assumption) only [C.ref1_Read_gos, vs, Go.Vc.vk, T.ts, ↓reduceIte, Nat.reduceEqDiff, reduceCtorEq, Nat.reduceLeDiff, Nat.reducePow, Int.reducePow, Int.reduceToNat, Nat.reduceAdd, Int.reduceToNat, hb3]
    refine eff_call_of ?_
    simp (disch := first | omega | assumption) only [C.ref1_Read_gos, vs, Go.Vc.vk, T.ts, ↓reduceIte, Nat.reduceEqDiff, reduceCtorEq, Nat.reduceLeDiff, Nat.reducePow, Int.reducePow, Int.reduceToNat, Nat.reduceAdd, Int.reduceToNat]
    refine (rnum_any (bs.drop 2) k5 (by omega)).mono ?_
    rintro v6 h6 ⟨rfl, rfl⟩
    generalize numB (bs.drop 2) = m2 at *
    simp (disch := first | omega | assumption) only [C.ref1_Read_gos, vs, Go.Vc.vk, T.ts, ↓reduceIte, Nat.reduceEqDiff, reduceCtorEq, Nat.reduceLeDiff, Nat.reducePow, Int.reducePow, Int.reduceToNat, Nat.reduceAdd]
    refine eff_store1_z T.zr_38 rfl rfl rfl rfl rfl (u := .int .u16 0) (by rw [cellAt_of b5]; rfl) (by simp [frozenAt, b5]) ?_
    have b7 := setAt_get (o := 4) b5 (.int .u16 (m2 : Int))
    have w7 : Fr (fun k => k = q) h6 (setAt h6 ⟨q, 4, none⟩ (.int .u16 (m2 : Int))) := Fr.set (S := fun k => k = q) _ _ _ fun _ => rfl
    have F7 : Ext h1 (setAt h6 ⟨q, 4, none⟩ (.int .u16 (m2 : Int))) := Fr.trans F5 w7 (fun _ _ h => h) (fun k hk hS => by omega)
    have o7 := o5.fr w7 (fun k hk hS => by have := hq k hk; omega)
    change (setAt h6 ⟨q, 4, none⟩ (.int .u16 (m2 : Int)))[q]? = some (.cells #[.int .u8 10, str [], .int .u64 0, .int .u16 (m : Int), .int .u16 (m2 : Int)] 76 (0, 0)) at b7
    generalize setAt h6 ⟨q, 4, none⟩ (.int .u16 (m2 : Int)) = k7 at *
    simp (disch := first | omega | assumption) only [C.ref1_Read_gos, vs, Go.Vc.vk, T.ts, ↓reduceIte, Nat.reduceEqDiff, reduceCtorEq, Nat.reduceLeDiff, Nat.reducePow, Int.reducePow, Int.reduceToNat, Nat.reduceAdd]
    have hld := ld_agg T.ag_76 (Rd_block (vs := [.int .u8 10, str [], .int .u64 0, .int .u16 (m : Int), .int .u16 (m2 : Int)]) b7) rfl
    simp (disch := first | omega | assumption) only [C.ref1_Read_gos, vs, Go.Vc.vk, T.ts, ↓reduceIte, Nat.reduceEqDiff, reduceCtorEq, Nat.reduceLeDiff, Nat.reducePow, Int.reducePow, Int.reduceToNat, Nat.reduceAdd, hld]
    refine eff_lits T.slT_22 rfl rfl (by decide) ?_
    simp (disch := first | omega | assumption) only [C.ref1_Read_gos, vs, Go.Vc.vk, T.ts, ↓reduceIte, Nat.reduceEqDiff, reduceCtorEq, Nat.reduceLeDiff, Nat.reducePow, Int.reducePow, Int.reduceToNat, Nat.reduceAdd]
    refine eff_append_own (m := 1) T.slT_22 rfl rfl (o7.push _) rfl (Rd_new (vs := [.int .u8 10, str [], .int .u64 0, .int .u16 (m : Int), .int .u16 (m2 : Int)])) (by simp [oneCell, str]) (by omega) (by omega) (by have := F7.size; simp; omega) ?_
    intro v6 h6 o6 f6 _
    have b6 := Fr_blk f6 (push_blk b7) (fun hk => by have := hq _ hk; omega)
    have F6 : Ext h1 h6 := Ext.app (F7.trans (Ext.push _ _)) f6 (fun k hk => (o7.lt k hk).1)
    have e6 : flatS cs ++ [.int .u8 10, str [], .int .u64 0, .int .u16 (m : Int), .int .u16 (m2 : Int)] = flatS (cs ++ [Cst.mk 10 [] 0 m m2]) := by simp [flatS, Cst.cells]
    have o7 : Own h6 h1.size 76 5 v6 (cs ++ [Cst.mk 10 [] 0 m m2]).length (flatS (cs ++ [Cst.mk 10 [] 0 m m2])) := Own_cast o6 (by simp) e6
    have c6 : cellAt h6 ⟨q, 0, none⟩ = some (.int .u8 10) := by rw [cellAt_of b6]; rfl
    have hX := okX hone
    simp only [show bigTwo 10 = false from rfl, if_true, Bool.false_eq_true, if_false] at hX
    clear o6 e6
    have hl2 : (cs ++ [Cst.mk 10 [] 0 m m2]).length = cs.length + 1 := by simp
    generalize cs ++ [Cst.mk 10 [] 0 m m2] = cs2 at *
    obtain ⟨a6, cc6, rfl, _⟩ := o7.slN.2
    simp (disch := first | omega | assumption) only [C.ref1_Read_gos, vs, Go.Vc.vk, T.ts, ↓reduceIte, Nat.reduceEqDiff, reduceCtorEq, Nat.reduceLeDiff, Nat.reducePow, Int.reducePow, Int.reduceToNat, Nat.reduceAdd, c6, Int.reduceEq, decide_true, decide_false]
    exact ⟨_, by omega, k, cs2, _, _, rfl, by omega, rfl, F6, o7, hX.symm, by omega, by omega⟩
  by_cases t11 : t = 11
  · subst t11
    rw [show sizeS 11 = 4 from rfl]
    simp only [show sizeS 11 = 4 from rfl, Int.reduceToNat, Int.reduceLT, if_false, Nat.reduceEqDiff, if_true, or_true, true_or, or_false, false_or, Nat.add_assoc, Nat.reduceAdd] at hone
    rw [show ((11 : Nat) : Int) = 11 from rfl] at b3 c0
    have e2 : ((p + 1 : Nat) : Int) + 4 = ((p + 5 : Nat) : Int) := by omega
    by_cases hz : l.length < p + 5
    · have hz' : (l.length : Int) < ((p + 5 : Nat) : Int) := by omega
      rw [if_pos hz] at hone
      rw [errX hone]
      simp (disch := first | omega | assumption) only [C.ref1_Read_gos, vs, Go.Vc.vk, T.ts, ↓reduceIte, Nat.reduceEqDiff, reduceCtorEq, Nat.reduceLeDiff, Nat.reducePow, Int.reducePow, Int.reduceToNat, Nat.reduceAdd, Int.reduceLT, e1, e2, hz']
      exact ⟨F3, rdV_err⟩
    have hz' : ¬ (l.length : Int) < ((p + 5 : Nat) : Int) := by omega
    rw [if_neg hz] at hone
    have hbl : ((l.take (p + 5)).drop (p + 1)).length = 4 := by simp; omega
    simp (disch := first | omega | assumption) only [C.ref1_Read_gos, vs, Go.Vc.vk, T.ts, ↓reduceIte, Nat.reduceEqDiff, reduceCtorEq, Nat.reduceLeDiff, Nat.reducePow, Int.reducePow, Int.reduceToNat, Nat.reduceAdd, Int.reduceLT, e1, e2, hz', c0, Int.reduceEq, decide_true, decide_false]
    generalize (l.take (p + 5)).drop (p + 1) = bs at *
    refine eff_call_of ?_
    simp (disch := first | omega | assumption) only [C.ref1_Read_gos, vs, Go.Vc.vk, T.ts, ↓reduceIte, Nat.reduceEqDiff, reduceCtorEq, Nat.reduceLeDiff, Nat.reducePow, Int.reducePow, Int.reduceToNat, Nat.reduceAdd, Int.reduceToNat]
    have hb1 : (bs.take 2).length = 2 := by simp; omega
    have hb2 : (bs.drop 2).length = 2 := by simp; omega
    refine (rnum_any (bs.take 2) h4 (by omega)).mono ?_
    rintro v5 h5 ⟨rfl, rfl⟩
    have hb : numB (bs.take 2) < 65536 := by have := numB_lt (bs.take 2); rw [hb1] at this; exact this
    have hb' : numB (bs.drop 2) < 65536 := by have := numB_lt (bs.drop 2); rw [hb2] at this; exact this
    generalize numB (bs.take 2) = m at *
    simp (disch := first | omega | assumption) only [C.ref1_Read_gos, vs, Go.Vc.vk, T.ts, ↓reduceIte, Nat.reduceEqDiff, reduceCtorEq, Nat.reduceLeDiff, Nat.reducePow, Int.reducePow, Int.reduceToNat, Nat.reduceAdd]
    refine eff_store1_z T.zr_38 rfl rfl rfl rfl rfl (u := .int .u16 0) (by rw [cellAt_of b3]; rfl) (by simp [frozenAt, b3]) ?_
    have b5 := setAt_get (o := 3) b3 (.int .u16 (m : Int))
    have w5 : Fr (fun k => k = q) h5 (setAt h5 ⟨q, 3, none⟩ (.int .u16 (m : Int))) := Fr.set (S := fun k => k = q) _ _ _ fun _ => rfl
    have F5 : Ext h1 (setAt h5 ⟨q, 3, none⟩ (.int .u16 (m : Int))) := Fr.trans F3 w5 (fun _ _ h => h) (fun k hk hS => by omega)
    have o5 := o3.fr w5 (fun k hk hS => by have := hq k hk; omega)
    change (setAt h5 ⟨q, 3, none⟩ (.int .u16 (m : Int)))[q]? = some (.cells #[.int .u8 11, str [], .int .u64 0, .int .u16 (m : Int), .int .u16 0] 76 (0, 0)) at b5
    generalize setAt h5 ⟨q, 3, none⟩ (.int .u16 (m : Int)) = k5 at *
    have hb3 : (2 : Int) ≤ bs.length := by omega
    simp (disch := first | omega | assumption) only [C.ref1_Read_gos, vs, Go.Vc.vk, T.ts, ↓reduceIte, Nat.reduceEqDiff, reduceCtorEq, Nat.reduceLeDiff, Nat.reducePow, Int.reducePow, Int.reduceToNat, Nat.reduceAdd, Int.reduceToNat, hb3]
    refine eff_call_of ?_
    simp (disch := first | omega | assumption) only [C.ref1_Read_gos, vs, Go.Vc.vk, T.ts, ↓reduceIte, Nat.reduceEqDiff, reduceCtorEq, Nat.reduceLeDiff, Nat.reducePow, Int.reducePow, Int.reduceToNat, Nat.reduceAdd, Int.reduceToNat]
    refine (rnum_any (bs.drop 2) k5 (by omega)).mono ?_
    rintro v6 h6 ⟨rfl, rfl⟩
    generalize numB (bs.drop 2) = m2 at *
    simp (disch := first | omega | assumption) only [C.ref1_Read_gos, vs, Go.Vc.vk, T.ts, ↓reduceIte, Nat.reduceEqDiff, reduceCtorEq, Nat.reduceLeDiff, Nat.reducePow, Int.reducePow, Int.reduceToNat, Nat.reduceAdd]
    refine eff_store1_z T.zr_38 rfl rfl rfl rfl rfl (u := .int .u16 0) (by rw [cellAt_of b5]; rfl) (by simp [frozenAt, b5]) ?_
    have b7 := setAt_get (o := 4) b5 (.int .u16 (m2 : Int))
    have w7 : Fr (fun k => k = q) h6 (setAt h6 ⟨q, 4, none⟩ (.int .u16 (m2 : Int))) := Fr.set (S := fun k => k = q) _ _ _ fun _ => rfl
    have F7 : Ext h1 (setAt h6 ⟨q, 4, none⟩ (.int .u16 (m2 : Int))) := Fr.trans F5 w7 (fun _ _ h => h) (fun k hk hS => by omega)
    have o7 := o5.fr w7 (fun k hk hS => by have := hq k hk; omega)
    change (setAt h6 ⟨q, 4, none⟩ (.int .u16 (m2 : Int)))[q]? = some (.cells #[.int .u8 11, str [], .int .u64 0, .int .u16 (m : Int), .int .u16 (m2 : Int)] 76 (0, 0)) at b7
    generalize setAt h6 ⟨q, 4, none⟩ (.int .u16 (m2 : Int)) = k7 at *
    simp (disch := first | omega | assumption) only [C.ref1_Read_gos, vs, Go.Vc.vk, T.ts, ↓reduceIte, Nat.reduceEqDiff, reduceCtorEq, Nat.reduceLeDiff, Nat.reducePow, Int.reducePow, Int.reduceToNat, Nat.reduceAdd]
    have hld := ld_agg T.ag_76 (Rd_block (vs := [.int .u8 11, str [], .int .u64 0, .int .u16 (m : Int), .int .u16 (m2 : Int)]) b7) rfl
    simp (disch := first | omega | assumption) only [C.ref1_Read_gos, vs, Go.Vc.vk, T.ts, ↓reduceIte, Nat.reduceEqDiff, reduceCtorEq, Nat.reduceLeDiff, Nat.reducePow, Int.reducePow, Int.reduceToNat, Nat.reduceAdd, hld]
    refine eff_lits T.slT_22 rfl rfl (by decide) ?_
    simp (disch := first | omega | assumption) only [C.ref1_Read_gos, vs, Go.Vc.vk, T.ts, ↓reduceIte, Nat.reduceEqDiff, reduceCtorEq, Nat.reduceLeDiff, Nat.reducePow, Int.reducePow, Int.reduceToNat, Nat.reduceAdd]
    refine eff_append_own (m := 1) T.slT_22 rfl rfl (o7.push _) rfl (Rd_new (vs := [.int .u8 11, str [], .int .u64 0, .int .u16 (m : Int), .int .u16 (m2 : Int)])) (by simp [oneCell, str]) (by omega) (by omega) (by have := F7.size; simp; omega) ?_
    intro v6 h6 o6 f6 _
    have b6 := Fr_blk f6 (push_blk b7) (fun hk => by have := hq _ hk; omega)
    have F6 : Ext h1 h6 := Ext.app (F7.trans (Ext.push _ _)) f6 (fun k hk => (o7.lt k hk).1)
    have e6 : flatS cs ++ [.int .u8 11, str [], .int .u64 0, .int .u16 (m : Int), .int .u16 (m2 : Int)] = flatS (cs ++ [Cst.mk 11 [] 0 m m2]) := by simp [flatS, Cst.cells]
    have o7 : Own h6 h1.size 76 5 v6 (cs ++ [Cst.mk 11 [] 0 m m2]).length (flatS (cs ++ [Cst.mk 11 [] 0 m m2])) := Own_cast o6 (by simp) e6
    have c6 : cellAt h6 ⟨q, 0, none⟩ = some (.int .u8 11) := by rw [cellAt_of b6]; rfl
    have hX := okX hone
    simp only [show bigTwo 11 = false from rfl, if_true, Bool.false_eq_true, if_false] at hX
    clear o6 e6
    have hl2 : (cs ++ [Cst.mk 11 [] 0 m m2]).length = cs.length + 1 := by simp
    generalize cs ++ [Cst.mk 11 [] 0 m m2] = cs2 at *
    obtain ⟨a6, cc6, rfl, _⟩ := o7.slN.2
    simp (disch := first | omega | assumption) only [C.ref1_Read_gos, vs, Go.Vc.vk, T.ts, ↓reduceIte, Nat.reduceEqDiff, reduceCtorEq, Nat.reduceLeDiff, Nat.reducePow, Int.reducePow, Int.reduceToNat, Nat.reduceAdd, c6, Int.reduceEq, decide_true, decide_false]
    exact ⟨_, by omega, k, cs2, _, _, rfl, by omega, rfl, F6, o7, hX.symm, by omega, by omega⟩
  by_cases t12 : t = 12
  · subst t12
    rw [show sizeS 12 = 4 from rfl]
    simp only [show sizeS 12 = 4 from rfl, Int.reduceToNat, Int.reduceLT, if_false, Nat.reduceEqDiff, if_true, or_true, true_or, or_false, false_or, Nat.add_assoc, Nat.reduceAdd] at hone
    rw [show ((12 : Nat) : Int) = 12 from rfl] at b3 c0
    have e2 : ((p + 1 : Nat) : Int) + 4 = ((p + 5 : Nat) : Int) := by omega
    by_cases hz : l.length < p + 5
    · have hz' : (l.length : Int) < ((p + 5 : Nat) : Int) := by omega
      rw [if_pos hz] at hone
      rw [errX hone]
      simp (disch := first | omega | assumption) only [C.ref1_Read_gos, vs, Go.Vc.vk, T.ts, ↓reduceIte, Nat.reduceEqDiff, reduceCtorEq, Nat.reduceLeDiff, Nat.reducePow, Int.reducePow, Int.reduceToNat, Nat.reduceAdd, Int.reduceLT, e1, e2, hz']
      exact ⟨F3, rdV_err⟩
    have hz' : ¬ (l.length : Int) < ((p + 5 : Nat) : Int) := by omega
    rw [if_neg hz] at hone
    have hbl : ((l.take (p + 5)).drop (p + 1)).length = 4 := by simp; omega
    simp (disch := first | omega | assumption) only [C.ref1_Read_gos, vs, Go.Vc.vk, T.ts, ↓reduceIte, Nat.reduceEqDiff, reduceCtorEq, Nat.reduceLeDiff, Nat.reducePow, Int.reducePow, Int.reduceToNat, Nat.reduceAdd, Int.reduceLT, e1, e2, hz', c0, Int.reduceEq, decide_true, decide_false]
    generalize (l.take (p + 5)).drop (p + 1) = bs at *
    refine eff_call_of ?_
    simp (disch := first | omega | assumption) only [C.ref1_Read_gos, vs, Go.Vc.vk, T.ts, ↓reduceIte, Nat.reduceEqDiff, reduceCtorEq, Nat.reduceLeDiff, Nat.reducePow, Int.reducePow, Int.reduceToNat, Nat.reduceAdd, Int.reduceToNat]
    have hb1 : (bs.take 2).length = 2 := by simp; omega
    have hb2 : (bs.drop 2).length = 2 := by simp; omega
    refine (rnum_any (bs.take 2) h4 (by omega)).mono ?_
    rintro v5 h5 ⟨rfl, rfl⟩
    have hb : numB (bs.take 2) < 65536 := by have := numB_lt (bs.take 2); rw [hb1] at this; exact this
    have hb' : numB (bs.drop 2) < 65536 := by have := numB_lt (bs.drop 2); rw [hb2] at this; exact this
    generalize numB (bs.take 2) = m at *
    simp (disch := first | omega | assumption) only [C.ref1_Read_gos, vs, Go.Vc.vk, T.ts, ↓reduceIte, Nat.reduceEqDiff, reduceCtorEq, Nat.reduceLeDiff, Nat.reducePow, Int.reducePow, Int.reduceToNat, Nat.reduceAdd]
    refine eff_store1_z T.zr_38 rfl rfl rfl rfl rfl (u := .int .u16 0) (by rw [cellAt_of b3]; rfl) (by simp [frozenAt, b3]) ?_
    have b5 := setAt_get (o := 3) b3 (.int .u16 (m : Int))
    have w5 : Fr (fun k => k = q) h5 (setAt h5 ⟨q, 3, none⟩ (.int .u16 (m : Int))) := Fr.set (S := fun k => k = q) _ _ _ fun _ => rfl
    have F5 : Ext h1 (setAt h5 ⟨q, 3, none⟩ (.int .u16 (m : Int))) := Fr.trans F3 w5 (fun _ _ h => h) (fun k hk hS => by omega)
    have o5 := o3.fr w5 (fun k hk hS => by have := hq k hk; omega)
    change (setAt h5 ⟨q, 3, none⟩ (.int .u16 (m : Int)))[q]? = some (.cells #[.int .u8 12, str [], .int .u64 0, .int .u16 (m : Int), .int .u16 0] 76 (0, 0)) at b5
    generalize setAt h5 ⟨q, 3, none⟩ (.int .u16 (m : Int)) = k5 at *
    have hb3 : (2 : Int) ≤ bs.length := by omega
    simp (disch := first | omega | assumption) only [C.ref1_Read_gos, vs, Go.Vc.vk, T.ts, ↓reduceIte, Nat.reduceEqDiff, reduceCtorEq, Nat.reduceLeDiff, Nat.reducePow, Int.reducePow, Int.reduceToNat, Nat.reduceAdd, Int.reduceToNat, hb3]
    refine eff_call_of ?_
    simp (disch := first | omega | assumption) only [C.ref1_Read_gos, vs, Go.Vc.vk, T.ts, ↓reduceIte, Nat.reduceEqDiff, reduceCtorEq, Nat.reduceLeDiff, Nat.reducePow, Int.reducePow, Int.reduceToNat, Nat.reduceAdd, Int.reduceToNat]
    refine (rnum_any (bs.drop 2) k5 (by omega)).mono ?_
    rintro v6 h6 ⟨rfl, rfl⟩
    generalize numB (bs.drop 2) = m2 at *
    simp (disch := first | omega | assumption) only [C.ref1_Read_gos, vs, Go.Vc.vk, T.ts, ↓reduceIte, Nat.reduceEqDiff, reduceCtorEq, Nat.reduceLeDiff, Nat.reducePow, Int.reducePow, Int.reduceToNat, Nat.reduceAdd]
    refine eff_store1_z T.zr_38 rfl rfl rfl rfl rfl (u := .int .u16 0) (by rw [cellAt_of b5]; rfl) (by simp [frozenAt, b5]) ?_
    have b7 := setAt_get (o := 4) b5 (.int .u16 (m2 : Int))
    have w7 : Fr (fun k => k = q) h6 (setAt h6 ⟨q, 4, none⟩ (.int .u16 (m2 : Int))) := Fr.set (S := fun k => k = q) _ _ _ fun _ => rfl
    have F7 : Ext h1 (setAt h6 ⟨q, 4, none⟩ (.int .u16 (m2 : Int))) := Fr.trans F5 w7 (fun _ _ h => h) (fun k hk hS => by omega)
    have o7 := o5.fr w7 (fun k hk hS => by have := hq k hk; omega)
    change (setAt h6 ⟨q, 4, none⟩ (.int .u16 (m2 : Int)))[q]? = some (.cells #[.int .u8 12, str [], .int .u64 0, .int .u16 (m : Int), .int .u16 (m2 : Int)] 76 (0, 0)) at b7
    generalize setAt h6 ⟨q, 4, none⟩ (.int .u16 (m2 : Int)) = k7 at *
    simp (disch := first | omega | assumption) only [C.ref1_Read_gos, vs, Go.Vc.vk, T.ts, ↓reduceIte, Nat.reduceEqDiff, reduceCtorEq, Nat.reduceLeDiff, Nat.reducePow, Int.reducePow, Int.reduceToNat, Nat.reduceAdd]
    have hld := ld_agg T.ag_76 (Rd_block (vs := [.int .u8 12, str [], .int .u64 0, .int .u16 (m : Int), .int .u16 (m2 : Int)]) b7) rfl
    simp (disch := first | omega | assumption) only [C.ref1_Read_gos, vs, Go.Vc.vk, T.ts, ↓reduceIte, Nat.reduceEqDiff, reduceCtorEq, Nat.reduceLeDiff, Nat.reducePow, Int.reducePow, Int.reduceToNat, Nat.reduceAdd, hld]
    refine eff_lits T.slT_22 rfl rfl (by decide) ?_
    simp (disch := first | omega | assumption) only [C.ref1_Read_gos, vs, Go.Vc.vk, T.ts, ↓reduceIte, Nat.reduceEqDiff, reduceCtorEq, Nat.reduceLeDiff, Nat.reducePow, Int.reducePow, Int.reduceToNat, Nat.reduceAdd]
    refine eff_append_own (m := 1) T.slT_22 rfl rfl (o7.push _) rfl (Rd_new (vs := [.int .u8 12, str [], .int .u64 0, .int .u16 (m : Int), .int .u16 (m2 : Int)])) (by simp [oneCell, str]) (by omega) (by omega) (by have := F7.size; simp; omega) ?_
    intro v6 h6 o6 f6 _
    have b6 := Fr_blk f6 (push_blk b7) (fun hk => by have := hq _ hk; omega)
    have F6 : Ext h1 h6 := Ext.app (F7.trans (Ext.push _ _)) f6 (fun k hk => (o7.lt k hk).1)
    have e6 : flatS cs ++ [.int .u8 12, str [], .int .u64 0, .int .u16 (m : Int), .int .u16 (m2 : Int)] = flatS (cs ++ [Cst.mk 12 [] 0 m m2]) := by simp [flatS, Cst.cells]
    have o7 : Own h6 h1.size 76 5 v6 (cs ++ [Cst.mk 12 [] 0 m m2]).length (flatS (cs ++ [Cst.mk 12 [] 0 m m2])) := Own_cast o6 (by simp) e6
    have c6 : cellAt h6 ⟨q, 0, none⟩ = some (.int .u8 12) := by rw [cellAt_of b6]; rfl
    have hX := okX hone
    simp only [show bigTwo 12 = false from rfl, if_true, Bool.false_eq_true, if_false] at hX
    clear o6 e6
    have hl2 : (cs ++ [Cst.mk 12 [] 0 m m2]).length = cs.length + 1 := by simp
    generalize cs ++ [Cst.mk 12 [] 0 m m2] = cs2 at *
    obtain ⟨a6, cc6, rfl, _⟩ := o7.slN.2
    simp (disch := first | omega | assumption) only [C.ref1_Read_gos, vs, Go.Vc.vk, T.ts, ↓reduceIte, Nat.reduceEqDiff, reduceCtorEq, Nat.reduceLeDiff, Nat.reducePow, Int.reducePow, Int.reduceToNat, Nat.reduceAdd, c6, Int.reduceEq, decide_true, decide_false]
    exact ⟨_, by omega, k, cs2, _, _, rfl, by omega, rfl, F6, o7, hX.symm, by omega, by omega⟩
  have sz : sizeS t = -1 := by simp [sizeS, t1, t3, t4, t5, t6, t7, t8, t9, t10, t11, t12]
  rw [sz] at hone ⊢
  simp only [Int.reduceNeg, Int.reduceLT, if_true] at hone
  rw [errX hone]
  simp (disch := first | omega | assumption) only [C.ref1_Read_gos, vs, Go.Vc.vk, T.ts, ↓reduceIte, Nat.reduceEqDiff, reduceCtorEq, Nat.reduceLeDiff, Nat.reducePow, Int.reducePow, Int.reduceToNat, Nat.reduceAdd, Int.reduceNeg, Int.reduceLT]
  exact ⟨F3, rdV_err⟩
end Go.Proofs.Ytohkbpnblkkdgaa

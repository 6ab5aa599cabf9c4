/- Reading a pool, by the program. -/
import Derived.Test.YtohkbpnblkkdgaaR3
namespace Go.Proofs.Ytohkbpnblkkdgaa
open Go.Vc
set_option maxRecDepth 100000
set_option linter.unusedSimpArgs false
set_option linter.unusedVariables false

def loopR (l : List UInt8) (n : Nat) : Nat → List Cst → RS → List Cst × RS
  | 0, cs, s => (cs, s)
  | k + 1, cs, s => if cs.length < n ∧ s.e = 0 then
      (if bigTwo (oneR l s).1.tag then loopR l n k (cs ++ [(oneR l s).1] ++ [Cst.zero]) (if n < cs.length + 2 then failS 12 s.p (oneR l s).2 else (oneR l s).2)
       else loopR l n k (cs ++ [(oneR l s).1]) (oneR l s).2)
    else (cs, s)
def poolR (l : List UInt8) (s : RS) : List Cst × RS :=
  loopR l (numS l 2 s).1 (numS l 2 s).1 [Cst.zero] (if (numS l 2 s).1 = 0 then failS 12 s.p (numS l 2 s).2 else (numS l 2 s).2)
theorem oneR_tag {l : List UInt8} {s : RS} : (oneR l s).1.tag < 256 := by
  have ht : (numS l 1 s).1 < 256 := numS_lt
  unfold oneR
  generalize numS l 1 s = a at *
  simp only
  repeat' split
  all_goals simp only
  all_goals omega
theorem loopR_stop {l : List UInt8} {n k : Nat} {cs : List Cst} {s : RS} (h : ¬ (cs.length < n ∧ s.e = 0)) : loopR l n k cs s = (cs, s) := by
  cases k with
  | zero => rfl
  | succ k => rw [loopR, if_neg h]
theorem Own_app {h : Heap} {base : Nat} {e : TypeId} {size n n' : Nat} {v : Value} {xs ys zs : List Value} (H : Own h base e size v n (xs ++ ys)) (hn : n = n') (hx : xs ++ ys = zs) : Own h base e size v n' zs := hn ▸ hx ▸ H

section
variable {h : Heap} {g : Nat} {l : List UInt8} {s : RS}
set_option maxHeartbeats 4000000 in
theorem pool_any (hl : l.length ≤ 1073741824) (H : Rdr h g l s) : HCalls Try.prog 53 #[.pointer (some ⟨g, 0, none⟩)] h fun v h' =>
    Fr (fun k => k = g) h h' ∧ Own h' h.size 76 5 v (poolR l s).1.length (flatS (poolR l s).1) ∧ Rdr h' g l (poolR l s).2 := by
  refine C.Reader_Pool_calls (args := [.pointer (some ⟨g, 0, none⟩)]) rfl ?_
  have hg := H.lt
  have c1 := H.c1
  simp (disch := first | omega | assumption) only [C.Reader_Pool_gos, T.tv, ↓reduceIte, Nat.reduceEqDiff, reduceCtorEq, Nat.reduceLeDiff, Nat.reducePow, Int.reducePow, Int.reduceToNat, Nat.reduceAdd, c1]
  refine eff_callF rfl ((num_any 2 hl (by omega) H).mono ?_)
  rintro v1 h1 ⟨f1, r1, rfl⟩
  have hn : (numS l 2 s).1 < 65536 := numS_lt
  unfold poolR
  generalize numS l 2 s = a at *
  obtain ⟨n, s1⟩ := a
  simp only at hn r1 ⊢
  have hend : ∀ (hh : Heap) (v : Value) (cs : List Cst) (s' : RS) (k : Nat), Fr (fun k => k = g) h hh → Rdr hh g l s' → Own hh h.size 76 5 v cs.length (flatS cs) → loopR l n n [Cst.zero] s1 = loopR l n k cs s' → True := fun _ _ _ _ _ _ _ _ _ => trivial
  clear hend
  by_cases hz : n = 0
  case' pos =>
    have hz' : (n : Int) = 0 := by omega
    rw [if_pos hz]
    simp (disch := first | omega | assumption) only [C.Reader_Pool_gos, T.tv, ↓reduceIte, Nat.reduceEqDiff, reduceCtorEq, Nat.reduceLeDiff, Nat.reducePow, Int.reducePow, Int.reduceToNat, Nat.reduceAdd, eq_true hz']
    refine eff_callF rfl ((fail_any 12 s.p r1).mono ?_)
    rintro v2 h2 ⟨f2', r2⟩
    have f2 := Fr.trans f1 f2' (fun _ _ h => h) (T := fun k => k = g) (fun _ _ h => h)
    generalize failS 12 s.p s1 = s2 at *
    clear f2' f1 r1 H c1
    simp (disch := first | omega | assumption) only [C.Reader_Pool_gos, T.tv, ↓reduceIte, Nat.reduceEqDiff, reduceCtorEq, Nat.reduceLeDiff, Nat.reducePow, Int.reducePow, Int.reduceToNat, Nat.reduceAdd]
  case' neg =>
    have hz' : ¬ (n : Int) = 0 := by omega
    rw [if_neg hz]
    obtain ⟨h2, rfl⟩ : ∃ x, x = h1 := ⟨_, rfl⟩
    obtain ⟨s2, rfl⟩ : ∃ x, x = s1 := ⟨_, rfl⟩
    have r2 := r1
    have f2 := f1
    clear H c1 r1 f1
    simp (disch := first | omega | assumption) only [C.Reader_Pool_gos, T.tv, ↓reduceIte, Nat.reduceEqDiff, reduceCtorEq, Nat.reduceLeDiff, Nat.reducePow, Int.reducePow, Int.reduceToNat, Nat.reduceAdd, eq_false hz']
  all_goals
    clear hz hz'
    refine eff_lits T.slT_22 rfl rfl (by decide) ?_
    simp (disch := first | omega | assumption) only [C.Reader_Pool_gos, T.tv, ↓reduceIte, Nat.reduceEqDiff, reduceCtorEq, Nat.reduceLeDiff, Nat.reducePow, Int.reducePow, Int.reduceToNat, Nat.reduceAdd]
    have own0 : Own (h2.push (.cells (Cst.zero.cells).toArray 76 (0, 0))) h.size 76 5 (.slice (some ⟨h2.size, 0, none⟩) 1 1) 1 (flatS [Cst.zero]) := Own.new (vs := flatS [Cst.zero]) rfl (by decide +kernel) f2.size
    have r3 : Rdr (h2.push (.cells (Cst.zero.cells).toArray 76 (0, 0))) g l s2 := r2.fr (Ext.push _ _) id
    have f3 : Fr (fun k => k = g) h (h2.push (.cells (Cst.zero.cells).toArray 76 (0, 0))) := Fr.trans f2 (Ext.push _ _) (fun _ _ h => h) (fun _ _ h => h.elim)
    change Own (h2.push (.cells #[.int .u8 0, str [], .int .u64 0, .int .u16 0, .int .u16 0] 76)) h.size 76 5 (.slice (some ⟨h2.size, 0, none⟩) 1 1) 1 (flatS [Cst.zero]) at own0
    change Rdr (h2.push (.cells #[.int .u8 0, str [], .int .u64 0, .int .u16 0, .int .u16 0] 76)) g l s2 at r3
    change Fr (fun k => k = g) h (h2.push (.cells #[.int .u8 0, str [], .int .u64 0, .int .u16 0, .int .u16 0] 76)) at f3
    refine loop_intro [0, 4, 5] (fun m ρ hc => ∃ (k : Nat) (cs : List Cst) (v : Value) (s' : RS), m = n - cs.length ∧ n ≤ k + cs.length ∧
      ρ = [(0, .pointer (some ⟨g, 0, none⟩)), (4, .int .i64 n), (5, v)] ∧ Fr (fun k => k = g) h hc ∧ Rdr hc g l s' ∧ Own hc h.size 76 5 v cs.length (flatS cs) ∧
      loopR l n n [Cst.zero] s2 = loopR l n k cs s' ∧ cs.length ≤ n + 1) ?_ ?_
    · simp (disch := first | omega | assumption) only [C.Reader_Pool_gos, T.tv, ↓reduceIte, Nat.reduceEqDiff, reduceCtorEq, Nat.reduceLeDiff, Nat.reducePow, Int.reducePow, Int.reduceToNat, Nat.reduceAdd]
      exact ⟨_, n, [Cst.zero], _, s2, rfl, by omega, rfl, f3, r3, own0, rfl, by simp⟩
    · rintro m ρ hc ⟨k, cs, v, s', rfl, hk, rfl, fc, rc, oc, hL, hcs⟩
      obtain ⟨a, c, rfl, _⟩ := oc.slN.2
      by_cases hlt : cs.length < n
      · have hlt' : (cs.length : Int) < n := by omega
        simp (disch := first | omega | assumption) only [C.Reader_Pool_gos, T.tv, ↓reduceIte, Nat.reduceEqDiff, reduceCtorEq, Nat.reduceLeDiff, Nat.reducePow, Int.reducePow, Int.reduceToNat, Nat.reduceAdd, hlt']
        refine eff_callF rfl ((bad_any rc).mono ?_)
        rintro v3 h3 ⟨rfl, rfl⟩
        have hgs := rc.lt
        by_cases he : s'.e = 0
        · have c1 := rc.c1
          simp (disch := first | omega | assumption) only [C.Reader_Pool_gos, T.tv, ↓reduceIte, Nat.reduceEqDiff, reduceCtorEq, Nat.reduceLeDiff, Nat.reducePow, Int.reducePow, Int.reduceToNat, Nat.reduceAdd, he, ne_eq, not_true_eq_false, decide_false, c1]
          refine eff_callF rfl ((one_any hl rc).mono ?_)
          rintro v4 h4 ⟨f4, r4, rfl⟩
          have o4 := oc.fr f4 (fun k hk hg' => by have := (oc.lt k hk).1; omega)
          have F4 : Fr (fun k => k = g) h h4 := Fr.trans fc f4 (fun _ _ h => h) (fun _ _ h => h)
          obtain ⟨k, rfl⟩ : ∃ k', k = k' + 1 := ⟨k - 1, by omega⟩
          have hstep : loopR l n (k + 1) cs s' = if bigTwo (oneR l s').1.tag then loopR l n k (cs ++ [(oneR l s').1] ++ [Cst.zero]) (if n < cs.length + 2 then failS 12 s'.p (oneR l s').2 else (oneR l s').2)
              else loopR l n k (cs ++ [(oneR l s').1]) (oneR l s').2 := by rw [loopR, if_pos ⟨hlt, he⟩]
          rw [hstep] at hL
          have htag : (oneR l s').1.tag < 256 := oneR_tag
          generalize oneR l s' = x at *
          obtain ⟨⟨tag, text, bits, ka, kb⟩, s5⟩ := x
          simp only [Cst.cells] at r4 hL htag ⊢
          clear hstep
          simp (disch := first | omega | assumption) only [C.Reader_Pool_gos, T.tv, ↓reduceIte, Nat.reduceEqDiff, reduceCtorEq, Nat.reduceLeDiff, Nat.reducePow, Int.reducePow, Int.reduceToNat, Nat.reduceAdd]
          refine eff_alloc_z T.zr_76 ?_
          simp (disch := first | omega | assumption) only [C.Reader_Pool_gos, T.tv, ↓reduceIte, Nat.reduceEqDiff, reduceCtorEq, Nat.reduceLeDiff, Nat.reducePow, Int.reducePow, Int.reduceToNat, Nat.reduceAdd]
          refine eff_store_new_z T.zr_76 rfl rfl rfl (by simp [Value.cells, oneCell, str]) rfl ?_
          intro h5 x5 hlt5 hrd5 b5
          change h5[h4.size]? = some (.cells #[.int .u8 (tag : Int), str text, .int .u64 (bits : Int), .int .u16 (ka : Int), .int .u16 (kb : Int)] 76 (0, 0)) at b5
          have hld := ld_agg T.ag_76 hrd5 rfl
          have o5 := o4.ext x5
          have r5 := r4.fr x5 id
          have F5 : Fr (fun k => k = g) h h5 := Fr.trans F4 x5 (fun _ _ h => h) (fun _ _ h => h.elim)
          have hq : ∀ k, (Value.slice a cs.length c).ownBlock = some k → h.size ≤ k ∧ k < h4.size := o4.lt
          have hgr : Array.size h4 ≠ g := by have := r4.lt; omega
          generalize h4.size = q at *
          change ld _ _ ⟨q, 0, none⟩ h5 = some (.agg #[.int .u8 (tag : Int), str text, .int .u64 (bits : Int), .int .u16 (ka : Int), .int .u16 (kb : Int)]) at hld
          simp (disch := first | omega | assumption) only [C.Reader_Pool_gos, T.tv, ↓reduceIte, Nat.reduceEqDiff, reduceCtorEq, Nat.reduceLeDiff, Nat.reducePow, Int.reducePow, Int.reduceToNat, Nat.reduceAdd, hld]
          refine eff_lits T.slT_22 rfl rfl (by decide) ?_
          simp (disch := first | omega | assumption) only [C.Reader_Pool_gos, T.tv, ↓reduceIte, Nat.reduceEqDiff, reduceCtorEq, Nat.reduceLeDiff, Nat.reducePow, Int.reducePow, Int.reduceToNat, Nat.reduceAdd]
          refine eff_append_own (m := 1) T.slT_22 rfl rfl (o5.push _) rfl (Rd_new (vs := [.int .u8 (tag : Int), str text, .int .u64 (bits : Int), .int .u16 (ka : Int), .int .u16 (kb : Int)])) (by simp [oneCell, str]) (by omega) (by omega) (by have := F5.size; simp; omega) ?_
          intro v6 h6 o6 f6 _
          have b6 := Fr_blk f6 (push_blk b5) (fun hk => by have := (hq _ hk).2; omega)
          have r6 : Rdr h6 g l s5 := (r5.fr (Ext.push _ _) id).fr f6 (fun hk => by have := (hq _ hk).1; omega)
          have F6 : Fr (fun k => k = g) h h6 := Fr.trans (Fr.trans F5 (Ext.push _ _) (fun _ _ h => h) (fun _ _ h => h.elim)) f6 (fun _ _ h => h) (fun k hk hS => absurd ((hq _ hS).1) (by omega)) (T := fun k => k = g)
          have e6 : flatS cs ++ [.int .u8 (tag : Int), str text, .int .u64 (bits : Int), .int .u16 (ka : Int), .int .u16 (kb : Int)] = flatS (cs ++ [Cst.mk tag text bits ka kb]) := by simp [flatS, Cst.cells]
          have o7 : Own h6 h.size 76 5 v6 (cs ++ [Cst.mk tag text bits ka kb]).length (flatS (cs ++ [Cst.mk tag text bits ka kb])) := Own_cast o6 (by simp) e6
          have c0 : cellAt h6 ⟨q, 0, none⟩ = some (.int .u8 (tag : Int)) := by rw [cellAt_of b6]; rfl
          obtain ⟨a6, cc6, rfl, _⟩ := o7.slN.2
          clear o6 e6
          by_cases hbt : bigTwo tag = true
          case' neg =>
            rw [if_neg hbt] at hL
            have k5 : ¬ (tag : Int) = 5 := by simp [bigTwo] at hbt; omega
            have k6 : ¬ (tag : Int) = 6 := by simp [bigTwo] at hbt; omega
            simp (disch := first | omega | assumption) only [C.Reader_Pool_gos, T.tv, ↓reduceIte, Nat.reduceEqDiff, reduceCtorEq, Nat.reduceLeDiff, Nat.reducePow, Int.reducePow, Int.reduceToNat, Nat.reduceAdd, c0, eq_false k5, eq_false k6, decide_false]
            exact ⟨_, by simp; omega, k, _, _, _, rfl, by simp; omega, rfl, F6, r6, o7, hL, by simp; omega⟩
          case' pos =>
            rw [if_pos hbt] at hL
            have hk56 : tag = 5 ∨ tag = 6 := by simpa [bigTwo] using hbt
            have hl2 : (cs ++ [Cst.mk tag text bits ka kb]).length = cs.length + 1 := by simp
            generalize cs ++ [Cst.mk tag text bits ka kb] = cs2 at *
            rcases hk56 with rfl | rfl
          all_goals
            first
            | rw [show ((5 : Nat) : Int) = 5 from rfl] at c0
            | rw [show ((6 : Nat) : Int) = 6 from rfl] at c0
            simp (disch := first | omega | assumption) only [C.Reader_Pool_gos, T.tv, ↓reduceIte, Nat.reduceEqDiff, reduceCtorEq, Nat.reduceLeDiff, Nat.reducePow, Int.reducePow, Int.reduceToNat, Nat.reduceAdd, c0, Int.reduceEq, decide_true, decide_false]
            refine eff_lits T.slT_22 rfl rfl (by decide) ?_
            simp (disch := first | omega | assumption) only [C.Reader_Pool_gos, T.tv, ↓reduceIte, Nat.reduceEqDiff, reduceCtorEq, Nat.reduceLeDiff, Nat.reducePow, Int.reducePow, Int.reduceToNat, Nat.reduceAdd]
            refine eff_append_own (m := 1) T.slT_22 rfl rfl (o7.push _) rfl (Rd_new (vs := Cst.zero.cells)) (by simp [oneCell, str, Cst.cells, Cst.zero]) (by omega) (by omega) (by have := F6.size; simp; omega) ?_
            intro v8 h8 o8 f8 _
            have hq6 := o7.lt
            have hg6 := r6.lt
            have r8 : Rdr h8 g l s5 := (r6.fr (Ext.push _ _) id).fr f8 (fun hk => by have := (hq6 _ hk).1; omega)
            have F8 : Fr (fun k => k = g) h h8 := Fr.trans (Fr.trans F6 (Ext.push _ _) (fun _ _ h => h) (fun _ _ h => h.elim)) f8 (fun _ _ h => h) (fun k hk hS => absurd ((hq6 _ hS).1) (by omega)) (T := fun k => k = g)
            have o9 : Own h8 h.size 76 5 v8 (cs2 ++ [Cst.zero]).length (flatS (cs2 ++ [Cst.zero])) := Own_cast o8 (by simp) (by rw [flatS_append]; rfl)
            obtain ⟨a8, c8, rfl, _⟩ := o9.slN.2
            have hl8 : (cs2 ++ [Cst.zero]).length = cs.length + 2 := by simp [hl2]
            generalize cs2 ++ [Cst.zero] = cs3 at *
            by_cases hn8 : n < cs.length + 2
            · have hn8' : (n : Int) < (cs3.length : Int) := by omega
              rw [if_pos hn8] at hL
              simp (disch := first | omega | assumption) only [C.Reader_Pool_gos, T.tv, ↓reduceIte, Nat.reduceEqDiff, reduceCtorEq, Nat.reduceLeDiff, Nat.reducePow, Int.reducePow, Int.reduceToNat, Nat.reduceAdd, hn8']
              refine eff_callF rfl ((fail_any 12 s'.p r8).mono ?_)
              rintro v9 h9 ⟨f9, r9⟩
              have o10 := o9.fr f9 (fun k hk hg' => by have := (o9.lt k hk).1; omega)
              have F9 : Fr (fun k => k = g) h h9 := Fr.trans F8 f9 (fun _ _ h => h) (fun _ _ h => h)
              simp (disch := first | omega | assumption) only [C.Reader_Pool_gos, T.tv, ↓reduceIte, Nat.reduceEqDiff, reduceCtorEq, Nat.reduceLeDiff, Nat.reducePow, Int.reducePow, Int.reduceToNat, Nat.reduceAdd]
              exact ⟨_, by omega, k, cs3, _, _, rfl, by omega, rfl, F9, r9, o10, hL, by omega⟩
            · have hn8' : ¬ (n : Int) < (cs3.length : Int) := by omega
              rw [if_neg hn8] at hL
              simp (disch := first | omega | assumption) only [C.Reader_Pool_gos, T.tv, ↓reduceIte, Nat.reduceEqDiff, reduceCtorEq, Nat.reduceLeDiff, Nat.reducePow, Int.reducePow, Int.reduceToNat, Nat.reduceAdd, hn8']
              exact ⟨_, by omega, k, cs3, _, _, rfl, by omega, rfl, F8, r8, o9, hL, by omega⟩
        · have he' : (decide (s'.e ≠ 0)) = true := by simp [he]
          have hst : ¬ (cs.length < n ∧ s'.e = 0) := fun h => he h.2
          rw [loopR_stop hst] at hL
          rw [hL]
          simp (disch := first | omega | assumption) only [C.Reader_Pool_gos, T.tv, ↓reduceIte, Nat.reduceEqDiff, reduceCtorEq, Nat.reduceLeDiff, Nat.reducePow, Int.reducePow, Int.reduceToNat, Nat.reduceAdd, he']
          exact ⟨fc, oc, rc⟩
      · have hlt' : ¬ (cs.length : Int) < n := by omega
        have hst : ¬ (cs.length < n ∧ s'.e = 0) := fun h => hlt h.1
        rw [loopR_stop hst] at hL
        rw [hL]
        simp (disch := first | omega | assumption) only [C.Reader_Pool_gos, T.tv, ↓reduceIte, Nat.reduceEqDiff, reduceCtorEq, Nat.reduceLeDiff, Nat.reducePow, Int.reducePow, Int.reduceToNat, Nat.reduceAdd, hlt']
        exact ⟨fc, oc, rc⟩
end
end Go.Proofs.Ytohkbpnblkkdgaa

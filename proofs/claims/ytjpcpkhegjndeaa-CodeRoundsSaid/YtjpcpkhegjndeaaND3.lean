/- The decoder of instructions: switches. -/
import Derived.Test.YtjpcpkhegjndeaaND2
namespace Go.Proofs.Ytjpcpkhegjndeaa
open Go.Vc
set_option maxRecDepth 100000
set_option linter.unusedSimpArgs false
set_option linter.unusedVariables false

section
variable {h h1 h2 : Heap} {g q bd : Nat} {l : List UInt8} {x : In} {s s' : RS}
/-- A list of the instruction is stored that was appended to: keys. -/
theorem DS.addK (H : DS h h1 g q bd l x s) {vk vt v2 : Value} {n : Int} (hq : h1[q]? = some (.cells (InV x vk vt).toArray 35 (0, 0))) (ownk : Own h1 h.size 3 1 vk x.keys.length (intsV x.keys)) (ownt : Own h1 h.size 3 1 vt x.tgts.length (intsV x.tgts))
    (disj : ∀ k, vk.ownBlock = some k → ¬ vt.ownBlock = some k) (own2 : Own h2 h.size 3 1 v2 (x.keys.length + 1) (intsV x.keys ++ [.int .i64 n])) (f : Fr (fun k => vk.ownBlock = some k) h1 h2) (fresh : ∀ k, v2.ownBlock = some k → vk.ownBlock = some k ∨ h1.size ≤ k) :
    DS h (setAt h2 ⟨q, 6, none⟩ v2) g q bd l { x with keys := x.keys ++ [n] } s := by
  obtain ⟨e1, e2, e3⟩ := H.gq
  have hs := H.size
  have hne : ∀ k cs t fz, h1[k]? = some (.cells cs t fz) → t ≠ 3 → ¬ vk.ownBlock = some k := fun k cs t fz hb ht => Own_ne ownk hb (Ne.symm ht)
  have q2 := Fr_blk f hq (hne _ _ _ _ hq (by decide))
  have r2 : Rdr h2 g l s := H.rd.fr f (hne _ _ _ _ H.rd.1 (by decide))
  have b2 := Fr_blk f H.bx (hne _ _ _ _ H.bx (by decide))
  have f2 : Fr (fun k => k = q) h2 (setAt h2 ⟨q, 6, none⟩ v2) := Fr.set (S := fun k => k = q) _ _ _ fun _ => rfl
  have b1 := setAt_get (o := 6) q2 v2
  have ot2 := ownt.fr f fun k hk hk2 => disj k hk2 hk
  refine ⟨Fr.trans (Fr.trans H.fr f (fun _ _ h => h) (fun k hk h => by have := (ownk.lt k h).1; omega)) f2 (fun _ _ h => h) (fun _ _ h => Or.inr h), r2.fr f2 (Ne.symm e1), ⟨v2, vt, b1, ?_, ?_, ?_⟩, Fr_blk f2 b2 e3⟩
  · refine Own_cast (own2.fr f2 fun k hk hS => ?_) (by simp) (by simp [intsV])
    subst hS; exact Own_ne own2 q2 (by decide) hk
  · exact ot2.fr f2 fun k hk hS => by subst hS; exact Own_ne ot2 q2 (by decide) hk
  · intro k hk hk2
    rcases fresh k hk with hh | hh
    · exact disj k hh hk2
    · have := (ownt.lt k hk2).2; omega
/-- The same: targets. -/
theorem DS.addT (H : DS h h1 g q bd l x s) {vk vt v2 : Value} {n : Int} (hq : h1[q]? = some (.cells (InV x vk vt).toArray 35 (0, 0))) (ownk : Own h1 h.size 3 1 vk x.keys.length (intsV x.keys)) (ownt : Own h1 h.size 3 1 vt x.tgts.length (intsV x.tgts))
    (disj : ∀ k, vk.ownBlock = some k → ¬ vt.ownBlock = some k) (own2 : Own h2 h.size 3 1 v2 (x.tgts.length + 1) (intsV x.tgts ++ [.int .i64 n])) (f : Fr (fun k => vt.ownBlock = some k) h1 h2) (fresh : ∀ k, v2.ownBlock = some k → vt.ownBlock = some k ∨ h1.size ≤ k) :
    DS h (setAt h2 ⟨q, 7, none⟩ v2) g q bd l { x with tgts := x.tgts ++ [n] } s := by
  obtain ⟨e1, e2, e3⟩ := H.gq
  have hs := H.size
  have hne : ∀ k cs t fz, h1[k]? = some (.cells cs t fz) → t ≠ 3 → ¬ vt.ownBlock = some k := fun k cs t fz hb ht => Own_ne ownt hb (Ne.symm ht)
  have q2 := Fr_blk f hq (hne _ _ _ _ hq (by decide))
  have r2 : Rdr h2 g l s := H.rd.fr f (hne _ _ _ _ H.rd.1 (by decide))
  have b2 := Fr_blk f H.bx (hne _ _ _ _ H.bx (by decide))
  have f2 : Fr (fun k => k = q) h2 (setAt h2 ⟨q, 7, none⟩ v2) := Fr.set (S := fun k => k = q) _ _ _ fun _ => rfl
  have b1 := setAt_get (o := 7) q2 v2
  have ok2 := ownk.fr f fun k hk hk2 => disj k hk hk2
  refine ⟨Fr.trans (Fr.trans H.fr f (fun _ _ h => h) (fun k hk h => by have := (ownt.lt k h).1; omega)) f2 (fun _ _ h => h) (fun _ _ h => Or.inr h), r2.fr f2 (Ne.symm e1), ⟨vk, v2, b1, ?_, ?_, ?_⟩, Fr_blk f2 b2 e3⟩
  · exact ok2.fr f2 fun k hk hS => by subst hS; exact Own_ne ok2 q2 (by decide) hk
  · refine Own_cast (own2.fr f2 fun k hk hS => ?_) (by simp) (by simp [intsV])
    subst hS; exact Own_ne own2 q2 (by decide) hk
  · intro k hk hk2
    rcases fresh k hk2 with hh | hh
    · exact disj k hk hh
    · have := (ownk.lt k hk).2; omega
theorem DS.push (H : DS h h1 g q bd l x s) (o : Obj) : DS h (h1.push o) g q bd l x s := by
  have E := Ext.push h1 o
  exact ⟨Fr.trans H.fr E (fun _ _ h => h) (fun _ _ h => h.elim), H.rd.fr E id, H.xr.fr E id (fun _ _ h => h.elim), Fr_blk E H.bx id⟩
end
theorem padD_done {l : List UInt8} {a k : Nat} {s : RS} (h : s.p % 4 = 0 ∨ s.e ≠ 0) : padD l a k s = s := by
  cases k with
  | zero => rfl
  | succ k => rw [padD, if_pos h]
theorem rowsD_bad {f : Nat} {l : List UInt8} {a r : Nat} {c : KT} (h : c.2.2.e ≠ 0) : rowsD f l a r c = c := by
  cases r with
  | zero => rfl
  | succ r => rw [rowsD, if_pos h]
theorem sgn4_p {l : List UInt8} {s : RS} (h : (sgnD l 4 s).2.e = 0) : s.e = 0 ∧ (sgnD l 4 s).2.p = s.p + 4 := by
  have h' : (takeS l 4 s).2.e = 0 := h
  show s.e = 0 ∧ (takeS l 4 s).2.p = s.p + 4
  unfold takeS at h' ⊢
  split at h'
  · rename_i hh; exact absurd h' hh
  · rename_i hh
    have h0 : s.e = 0 := by omega
    split at h'
    · cases h'
    · rename_i h2
      rw [if_neg (by omega), if_neg h2]
      exact ⟨h0, rfl⟩

section
variable {h : Heap} {g q : Nat} {l : List UInt8} {s : RS}
set_option maxHeartbeats 8000000 in
theorem dcho_any (x : In) (a f : Nat) (hf : f = 10 ∨ f = 11) (hl : l.length ≤ 1073741824) (ha : x.at' = (a : Int)) (hal : a ≤ l.length) (hk : x.keys = []) (ht : x.tgts = [])
    (H : Rdr h g l s) (hq : h[q]? = some (.cells (InV x (.slice none 0 0) (.slice none 0 0)).toArray 35 (0, 0))) :
    HCalls Try.prog 46 #[.agg #[.pointer (some ⟨g, 0, none⟩)], .pointer (some ⟨q, 0, none⟩), .int .i64 f] h fun _ h' =>
      Fr (fun k => k = g ∨ k = q) h h' ∧ Rdr h' g l (choD x a f l s).2 ∧ XR h' h.size q (choD x a f l s).1 := by
  refine C.dec_choice_calls (args := [.agg #[.pointer (some ⟨g, 0, none⟩)], .pointer (some ⟨q, 0, none⟩), .int .i64 f]) rfl ?_
  generalize hY : choD x a f l s = Y
  simp (disch := first | omega | assumption) only [C.dec_choice_gos, vs, Go.Vc.vk, T.ts, ↓reduceIte, Nat.reduceEqDiff, reduceCtorEq, Nat.reduceLeDiff, Nat.reducePow, Int.reducePow, Int.reduceToNat, Nat.reduceAdd]
  refine eff_box ?_
  have D0 : DS h (h.push (.cells #[.pointer (some ⟨g, 0, none⟩)] 52)) g q h.size l x s :=
    ⟨Fr.mono (Ext.push h _) (fun _ _ h => h.elim), H.fr (Ext.push h _) id, ⟨_, _, push_blk hq, by rw [hk]; exact Own.nil, by rw [ht]; exact Own.nil, by intro k hk; simp [Value.ownBlock] at hk⟩, by simp⟩
  simp (disch := first | omega | assumption) only [C.dec_choice_gos, vs, Go.Vc.vk, T.ts, ↓reduceIte, Nat.reduceEqDiff, reduceCtorEq, Nat.reduceLeDiff, Nat.reducePow, Int.reducePow, Int.reduceToNat, Nat.reduceAdd]
  generalize h.push (.cells #[.pointer (some ⟨g, 0, none⟩)] 52) = h1 at *
  refine loop_intro [1, 2, 3] (fun m ρ hc => ∃ (k : Nat) (s' : RS), m = k ∧ ρ = [(1, .pointer (some ⟨q, 0, none⟩)), (2, .int .i64 f), (3, .pointer (some ⟨h.size, 0, none⟩))] ∧ DS h hc g q h.size l x s' ∧ padD l a k s' = padD l a 4 s ∧ (s'.e ≠ 0 ∨ (4 - s'.p % 4) % 4 ≤ k)) ?_ ?_
  · simp (disch := first | omega | assumption) only [C.dec_choice_gos, vs, Go.Vc.vk, T.ts, ↓reduceIte, Nat.reduceEqDiff, reduceCtorEq, Nat.reduceLeDiff, Nat.reducePow, Int.reducePow, Int.reduceToNat, Nat.reduceAdd]
    exact ⟨_, 4, s, rfl, D0, rfl, by omega⟩
  rintro m ρ hc ⟨k, s1, rfl, rfl, D1, hpad, hkk⟩
  have fx1 := D1.cells
  rw [ha] at fx1
  simp (disch := first | omega | assumption) only [C.dec_choice_gos, vs, Go.Vc.vk, T.ts, ↓reduceIte, Nat.reduceEqDiff, reduceCtorEq, Nat.reduceLeDiff, Nat.reducePow, Int.reducePow, Int.reduceToNat, Nat.reduceAdd, fx1]
  refine eff_call_of ?_
  simp (disch := first | omega | assumption) only [C.dec_choice_gos, vs, Go.Vc.vk, T.ts, ↓reduceIte, Nat.reduceEqDiff, reduceCtorEq, Nat.reduceLeDiff, Nat.reducePow, Int.reducePow, Int.reduceToNat, Nat.reduceAdd]
  refine (at_any D1.rd).mono ?_
  intro v2 h2 hp2
  have e2 := hp2.1
  subst e2
  have hv2 := hp2.2
  clear hp2
  have hdone : s1.p % 4 = 0 ∨ s1.e ≠ 0 → padD l a 4 s = s1 := fun hd => by rw [← hpad, padD_done hd]
  by_cases hmore : s1.p % 4 = 0 ∨ s1.e ≠ 0
  case neg =>
    have hm4 : ¬ (s1.p : Int) % 4 = 0 := by omega
    have he0 : s1.e = 0 := by omega
    simp (disch := first | omega | assumption) only [C.dec_choice_gos, vs, Go.Vc.vk, T.ts, ↓reduceIte, Nat.reduceEqDiff, reduceCtorEq, Nat.reduceLeDiff, Nat.reducePow, Int.reducePow, Int.reduceToNat, Nat.reduceAdd, hv2, fx1, eq_false hm4]
    refine eff_call_of ?_
    simp (disch := first | omega | assumption) only [C.dec_choice_gos, vs, Go.Vc.vk, T.ts, ↓reduceIte, Nat.reduceEqDiff, reduceCtorEq, Nat.reduceLeDiff, Nat.reducePow, Int.reducePow, Int.reduceToNat, Nat.reduceAdd]
    refine (bad_any D1.rd).mono ?_
    intro v3 h3 hp3
    have e3 := hp3.1
    subst e3
    have hv3 := hp3.2
    rw [he0] at hv3
    clear hp3
    simp (disch := first | omega | assumption) only [C.dec_choice_gos, vs, Go.Vc.vk, T.ts, ↓reduceIte, Nat.reduceEqDiff, reduceCtorEq, Nat.reduceLeDiff, Nat.reducePow, Int.reducePow, Int.reduceToNat, Nat.reduceAdd, hv3, fx1]
    refine eff_call_of ?_
    simp (disch := first | omega | assumption) only [C.dec_choice_gos, vs, Go.Vc.vk, T.ts, ↓reduceIte, Nat.reduceEqDiff, reduceCtorEq, Nat.reduceLeDiff, Nat.reducePow, Int.reducePow, Int.reduceToNat, Nat.reduceAdd]
    refine (num_any 1 hl (by omega) D1.rd).mono ?_
    intro v4 h4 hp4
    have D4 := D1.step hp4.1 hp4.2.1
    have hv4 := hp4.2.2
    clear hp4
    have fx4 := D4.cells
    rw [ha] at fx4
    obtain ⟨k', rfl⟩ : ∃ k', m = k' + 1 := ⟨m - 1, by omega⟩
    rw [padD, if_neg hmore] at hpad
    have hsuc := num_step l s1
    by_cases hz : (numS l 1 s1).1 = 0
    · have hz' : (((numS l 1 s1).1 : Nat) : Int) = 0 := by omega
      rw [if_neg (by simp [hz])] at hpad
      simp (disch := first | omega | assumption) only [C.dec_choice_gos, vs, Go.Vc.vk, T.ts, ↓reduceIte, Nat.reduceEqDiff, reduceCtorEq, Nat.reduceLeDiff, Nat.reducePow, Int.reducePow, Int.reduceToNat, Nat.reduceAdd, hv4, eq_true hz']
      refine ⟨_, Nat.lt_succ_self _, k', _, rfl, D4, hpad, ?_⟩
      by_cases hlt : s1.p < l.length
      · have := (hsuc hlt he0).1
        omega
      · left
        unfold numS takeS
        rw [if_neg (by omega), if_pos (by omega)]
        exact (show (1 : Nat) ≠ 0 by decide)
    · have hz' : ¬ (((numS l 1 s1).1 : Nat) : Int) = 0 := by omega
      rw [if_pos (by simpa using hz)] at hpad
      simp (disch := first | omega | assumption) only [C.dec_choice_gos, vs, Go.Vc.vk, T.ts, ↓reduceIte, Nat.reduceEqDiff, reduceCtorEq, Nat.reduceLeDiff, Nat.reducePow, Int.reducePow, Int.reduceToNat, Nat.reduceAdd, hv4, eq_false hz', fx4]
      refine eff_call_of ?_
      simp (disch := first | omega | assumption) only [C.dec_choice_gos, vs, Go.Vc.vk, T.ts, ↓reduceIte, Nat.reduceEqDiff, reduceCtorEq, Nat.reduceLeDiff, Nat.reducePow, Int.reducePow, Int.reduceToNat, Nat.reduceAdd]
      refine (fail_any 15 a D4.rd).mono ?_
      intro v5 h5 hp5
      have D5 := D4.step hp5.1 hp5.2
      clear hp5
      simp (disch := first | omega | assumption) only [C.dec_choice_gos, vs, Go.Vc.vk, T.ts, ↓reduceIte, Nat.reduceEqDiff, reduceCtorEq, Nat.reduceLeDiff, Nat.reducePow, Int.reducePow, Int.reduceToNat, Nat.reduceAdd]
      refine ⟨_, Nat.lt_succ_self _, k', _, rfl, D5, hpad, Or.inl ?_⟩
      unfold failS
      split
      · exact (show (15 : Nat) ≠ 0 by decide)
      · assumption
  have hs1 := hdone hmore
  clear hdone hpad hkk
  unfold choD at hY
  rw [hs1] at hY
  clear hs1
  simp only at hY
  have tail : ∀ (v3 : Value) (pv : Bool), True := fun _ _ => trivial
  clear tail
  by_cases hm4 : s1.p % 4 = 0
  case' pos =>
    have hm4' : (s1.p : Int) % 4 = 0 := by omega
    simp (disch := first | omega | assumption) only [C.dec_choice_gos, vs, Go.Vc.vk, T.ts, ↓reduceIte, Nat.reduceEqDiff, reduceCtorEq, Nat.reduceLeDiff, Nat.reducePow, Int.reducePow, Int.reduceToNat, Nat.reduceAdd, hv2, fx1, eq_true hm4']
  case' neg =>
    have hm4' : ¬ (s1.p : Int) % 4 = 0 := by omega
    have he1 : (s1.e ≠ 0) = True := eq_true (by omega)
    simp (disch := first | omega | assumption) only [C.dec_choice_gos, vs, Go.Vc.vk, T.ts, ↓reduceIte, Nat.reduceEqDiff, reduceCtorEq, Nat.reduceLeDiff, Nat.reducePow, Int.reducePow, Int.reduceToNat, Nat.reduceAdd, hv2, fx1, eq_false hm4']
    refine eff_call_of ?_
    simp (disch := first | omega | assumption) only [C.dec_choice_gos, vs, Go.Vc.vk, T.ts, ↓reduceIte, Nat.reduceEqDiff, reduceCtorEq, Nat.reduceLeDiff, Nat.reducePow, Int.reducePow, Int.reduceToNat, Nat.reduceAdd]
    refine (bad_any D1.rd).mono ?_
    intro v3 h3 hp3
    have e3 := hp3.1
    subst e3
    have hv3 := hp3.2
    simp only [he1, decide_true] at hv3
    clear hp3
    simp (disch := first | omega | assumption) only [C.dec_choice_gos, vs, Go.Vc.vk, T.ts, ↓reduceIte, Nat.reduceEqDiff, reduceCtorEq, Nat.reduceLeDiff, Nat.reducePow, Int.reducePow, Int.reduceToNat, Nat.reduceAdd, hv3, fx1]
  all_goals
    refine eff_call_of ?_
    simp (disch := first | omega | assumption) only [C.dec_choice_gos, vs, Go.Vc.vk, T.ts, ↓reduceIte, Nat.reduceEqDiff, reduceCtorEq, Nat.reduceLeDiff, Nat.reducePow, Int.reducePow, Int.reduceToNat, Nat.reduceAdd]
    refine (dsgn_any 4 (by omega) hl D1.rd).mono ?_
    intro v4 h4 hp4
    have D4 := D1.step hp4.1 hp4.2.1
    have hv4 := hp4.2.2
    clear hp4
    have fx4 := D4.cells
    rw [ha] at fx4
    have b4 := sgnD_fit l 4 s1 (by omega)
    generalize hT : sgnD l 4 s1 = T at *
    obtain ⟨t0, s4⟩ := T
    simp only at hv4 hY b4 D4
    simp (disch := first | omega | assumption) only [C.dec_choice_gos, vs, Go.Vc.vk, T.ts, ↓reduceIte, Nat.reduceEqDiff, reduceCtorEq, Nat.reduceLeDiff, Nat.reducePow, Int.reducePow, Int.reduceToNat, Nat.reduceAdd, hv4, fx4]
    refine eff_lits T.slT_33 rfl rfl (by decide) ?_
    simp (disch := first | omega | assumption) only [C.dec_choice_gos, vs, Go.Vc.vk, T.ts, ↓reduceIte, Nat.reduceEqDiff, reduceCtorEq, Nat.reduceLeDiff, Nat.reducePow, Int.reducePow, Int.reduceToNat, Nat.reduceAdd]
    have fx5 := (D4.push (.cells #[.int .i64 ((a : Int) + t0)] 3)).cells
    obtain ⟨vk4, vt4, q4, own4k, own4t, _⟩ := D4.xr
    have c7 : cellAt (h4.push (.cells #[.int .i64 ((a : Int) + t0)] 3)) ⟨q, 7, none⟩ = some vt4 := by rw [cellAt_of (push_blk q4)]; rfl
    refine eff_store1_z T.zr_33 rfl rfl rfl rfl rfl c7 ((D4.push _).notfz 7) ?_
    have D6 := D4.tg1 ((a : Int) + t0)
    generalize setAt (h4.push (.cells #[.int .i64 ((a : Int) + t0)] 3)) ⟨q, 7, none⟩ (.slice (some ⟨h4.size, 0, none⟩) 1 1) = h6 at *
    have fx6 := D6.cells
    rw [ha] at fx6
    clear c7 fx5 fx4 q4 own4k own4t
    simp (disch := first | omega | assumption) only [C.dec_choice_gos, vs, Go.Vc.vk, T.ts, ↓reduceIte, Nat.reduceEqDiff, reduceCtorEq, Nat.reduceLeDiff, Nat.reducePow, Int.reducePow, Int.reduceToNat, Nat.reduceAdd, fx6]
    refine eff_call_of ?_
    simp (disch := first | omega | assumption) only [C.dec_choice_gos, vs, Go.Vc.vk, T.ts, ↓reduceIte, Nat.reduceEqDiff, reduceCtorEq, Nat.reduceLeDiff, Nat.reducePow, Int.reducePow, Int.reduceToNat, Nat.reduceAdd]
    refine (dsgn_any 4 (by omega) hl D6.rd).mono ?_
    intro v7 h7 hp7
    have D7 := D6.step hp7.1 hp7.2.1
    have hv7 := hp7.2.2
    clear hp7
    have b7 := sgnD_fit l 4 s4 (by omega)
    generalize hT7 : sgnD l 4 s4 = T7 at *
    obtain ⟨n, s7⟩ := T7
    simp only at hv7 hY b7 D7
    have fx7 := D7.cells
    rw [ha] at fx7
    -- the rows
    have rows : ∀ (x2 : In) (cnt : Nat) (s9 : RS) (h9 : Heap), x2.at' = (a : Int) → x2.keys = [] → x2.tgts = [(a : Int) + t0] → cnt ≤ 8589934592 → DS h h9 g q h.size l x2 s9 →
        ({ x2 with keys := (rowsD f l a cnt ([], [(a : Int) + t0], s9)).1, tgts := (rowsD f l a cnt ([], [(a : Int) + t0], s9)).2.1 }, (rowsD f l a cnt ([], [(a : Int) + t0], s9)).2.2) = Y →
        ∀ ρ0 : Env, Env.keep [1, 2, 3, 6, 8] ρ0 = [(1, .pointer (some ⟨q, 0, none⟩)), (2, .int .i64 f), (3, .pointer (some ⟨h.size, 0, none⟩)), (6, .int .i64 cnt), (8, .int .i64 0)] →
        Cd.vc Try.prog (.loop C.dec_choice_l1) (Ex.inb 2 (retQ Try.prog [] fun _ h' => Fr (fun k => k = g ∨ k = q) h h' ∧ Rdr h' g l Y.2 ∧ XR h' h.size q Y.1)) ρ0 h9 := by
      intro x2 cnt s9 h9 ha2 hk2 ht2 hcl D9 hY2 ρ0 hρ
      have hf2 : f = 10 ∨ f = 11 := hf
      clear hY D7 D6 D4 D1 D0 fx7 fx6 fx1 hv7 hv4 hv2 hT hT7 b7 b4
      generalize hX : rowsD f l a cnt ([], [(a : Int) + t0], s9) = X at *
      refine loop_intro [1, 2, 3, 6, 8] (fun m ρ hc => ∃ (i r : Nat) (c : KT), m = r ∧ i + r = cnt ∧ (f = 11 → c.1.length = i) ∧ c.1.length ≤ i ∧ c.2.1.length = i + 1 ∧ ρ = [(1, .pointer (some ⟨q, 0, none⟩)), (2, .int .i64 f), (3, .pointer (some ⟨h.size, 0, none⟩)), (6, .int .i64 cnt), (8, .int .i64 i)] ∧
        DS h hc g q h.size l { x2 with keys := c.1, tgts := c.2.1 } c.2.2 ∧ rowsD f l a r c = X ∧ (c.2.2.e = 0 → 4 * i + s9.p ≤ c.2.2.p)) ?_ ?_
      · rw [hρ]
        refine ⟨_, 0, cnt, ([], [(a : Int) + t0], s9), rfl, by omega, fun _ => rfl, Nat.le_refl _, rfl, rfl, ?_, hX, fun _ => by simp⟩
        have e2 : ({ x2 with keys := [], tgts := [(a : Int) + t0] } : In) = x2 := by cases x2; simp_all
        show DS h h9 g q h.size l { x2 with keys := [], tgts := [(a : Int) + t0] } s9
        rw [e2]; exact D9
      clear D9 hX hρ
      rintro m ρ hc ⟨i, r, ⟨ks, ts, s1⟩, rfl, hir, hki, hkl, htl, rfl, D1, hR, hpp⟩
      simp only at hki hkl htl D1 hR hpp
      have fx1 := D1.cells
      simp only [ha2] at fx1
      have hend : X = (ks, ts, s1) → Fr (fun k => k = g ∨ k = q) h hc ∧ Rdr hc g l Y.2 ∧ XR hc h.size q Y.1 := by
        intro hX
        rw [← hY2, hX]
        exact ⟨D1.fr, D1.rd, D1.xr⟩
      cases m with
      | zero =>
        have hlt : ¬ (i : Int) < cnt := by omega
        have he := hend hR.symm
        simp (disch := first | omega | assumption) only [C.dec_choice_gos, vs, Go.Vc.vk, T.ts, ↓reduceIte, Nat.reduceEqDiff, reduceCtorEq, Nat.reduceLeDiff, Nat.reducePow, Int.reducePow, Int.reduceToNat, Nat.reduceAdd, hlt]
        exact he
      | succ r =>
        have hlt : (i : Int) < cnt := by omega
        simp (disch := first | omega | assumption) only [C.dec_choice_gos, vs, Go.Vc.vk, T.ts, ↓reduceIte, Nat.reduceEqDiff, reduceCtorEq, Nat.reduceLeDiff, Nat.reducePow, Int.reducePow, Int.reduceToNat, Nat.reduceAdd, hlt, fx1]
        refine eff_call_of ?_
        simp (disch := first | omega | assumption) only [C.dec_choice_gos, vs, Go.Vc.vk, T.ts, ↓reduceIte, Nat.reduceEqDiff, reduceCtorEq, Nat.reduceLeDiff, Nat.reducePow, Int.reducePow, Int.reduceToNat, Nat.reduceAdd]
        refine (bad_any D1.rd).mono ?_
        intro v3 h3 hp3
        have e3 := hp3.1
        subst e3
        have hv3 := hp3.2
        clear hp3
        by_cases hbad : s1.e ≠ 0
        · rw [rowsD_bad (by simpa using hbad)] at hR
          have he := hend hR.symm
          rw [decide_eq_true hbad] at hv3
          simp (disch := first | omega | assumption) only [C.dec_choice_gos, vs, Go.Vc.vk, T.ts, ↓reduceIte, Nat.reduceEqDiff, reduceCtorEq, Nat.reduceLeDiff, Nat.reducePow, Int.reducePow, Int.reduceToNat, Nat.reduceAdd, hv3]
          exact he
        have he0 : s1.e = 0 := by omega
        rw [decide_eq_false hbad] at hv3
        rw [rowsD, if_neg (by simpa using hbad)] at hR
        simp only at hR
        have hib : i ≤ 1073741824 := by
          have h1 := hpp he0
          have h2 := D1.rd.2
          omega
        rcases hf2 with rfl | rfl
        case' inl =>
          have hkd : keyD 10 l a ks s1 = (ks, s1) := rfl
          rw [hkd] at hR
          simp only at hR
          have hkl2 : ks.length ≤ i + 1 := by omega
          have hki2 : 10 = 11 → ks.length = i + 1 := by omega
          have hpp2 : s1.e = 0 → 4 * i + s9.p ≤ s1.p := hpp
          rw [show ((10 : Nat) : Int) = 10 from rfl]
          have D5 := D1
          obtain ⟨vk5, vt5, q5, own5k, own5t, dj5⟩ := id D5.xr
          have c7 := cellAt_of (j := 7) q5
          simp only [InV, List.getElem?_toArray, List.getElem?_cons_zero, List.getElem?_cons_succ] at c7
          have fx5 := D5.cells
          simp only [ha2] at fx5
          simp (disch := first | omega | assumption) only [C.dec_choice_gos, vs, Go.Vc.vk, T.ts, ↓reduceIte, Nat.reduceEqDiff, reduceCtorEq, Nat.reduceLeDiff, Nat.reducePow, Int.reducePow, Int.reduceToNat, Nat.reduceAdd, hv3, fx5, c7, Int.reduceEq, decide_false]
          obtain ⟨ks2, hks2⟩ : ∃ y, y = ks := ⟨_, rfl⟩
          rw [← hks2] at hR hkl2 hki2 D5 own5k q5
          obtain ⟨s2, hs2⟩ : ∃ y, y = s1 := ⟨_, rfl⟩
          rw [← hs2] at hR hpp2 D5
          clear hs2 hks2 D1
        case' inr =>
          rw [show ((11 : Nat) : Int) = 11 from rfl]
          have hki' := hki rfl
          simp (disch := first | omega | assumption) only [C.dec_choice_gos, vs, Go.Vc.vk, T.ts, ↓reduceIte, Nat.reduceEqDiff, reduceCtorEq, Nat.reduceLeDiff, Nat.reducePow, Int.reducePow, Int.reduceToNat, Nat.reduceAdd, hv3, fx1, Int.reduceEq, decide_true]
          refine eff_call_of ?_
          simp (disch := first | omega | assumption) only [C.dec_choice_gos, vs, Go.Vc.vk, T.ts, ↓reduceIte, Nat.reduceEqDiff, reduceCtorEq, Nat.reduceLeDiff, Nat.reducePow, Int.reducePow, Int.reduceToNat, Nat.reduceAdd]
          refine (dsgn_any 4 (by omega) hl D1.rd).mono ?_
          intro v4 h4 hp4
          have D4 := D1.step hp4.1 hp4.2.1
          have hv4 := hp4.2.2
          clear hp4
          have hs4 := sgn4_p (l := l) (s := s1)
          have hkd : keyD 11 l a ks s1 = (ks ++ [(sgnD l 4 s1).1], if ks ≠ [] ∧ (sgnD l 4 s1).1 ≤ ks.getD (ks.length - 1) 0 then failS 15 a (sgnD l 4 s1).2 else (sgnD l 4 s1).2) := rfl
          rw [hkd] at hR
          generalize sgnD l 4 s1 = T at *
          obtain ⟨kv, s4⟩ := T
          simp only at hR hv4 D4 hs4
          have fx4 := D4.cells
          simp only [ha2] at fx4
          by_cases hi0 : i = 0
          case' pos =>
            have hks : ks = [] := List.eq_nil_of_length_eq_zero (by omega)
            have hi0' : ¬ (0 : Int) < (i : Int) := by omega
            rw [if_neg (by simp [hks])] at hR
            obtain ⟨s2, hs2⟩ : ∃ y, y = s4 := ⟨_, rfl⟩
            have hpp3 : s2.e = 0 → 4 * i + s9.p ≤ s2.p := by
              rw [hs2]; intro h0
              have := hs4 h0
              have := hpp he0
              omega
            have D5 := D4
            rw [← hs2] at D5 hR
            obtain ⟨vk5, vt5, q5, own5k, own5t, dj5⟩ := id D5.xr
            have c6 := cellAt_of (j := 6) q5
            simp only [InV, List.getElem?_toArray, List.getElem?_cons_zero, List.getElem?_cons_succ] at c6
            simp (disch := first | omega | assumption) only [C.dec_choice_gos, vs, Go.Vc.vk, T.ts, ↓reduceIte, Nat.reduceEqDiff, reduceCtorEq, Nat.reduceLeDiff, Nat.reducePow, Int.reducePow, Int.reduceToNat, Nat.reduceAdd, hv4, fx4, c6, hi0']
          case' neg =>
            have hi0' : (0 : Int) < (i : Int) := by omega
            have hks : ks ≠ [] := by intro hh; rw [hh] at hki'; simp at hki'; omega
            have e1 : (i : Int) - 1 = ((i - 1 : Nat) : Int) := by omega
            obtain ⟨vk4, vt4, q4, own4k, own4t, dj4⟩ := id D4.xr
            have c64 := cellAt_of (j := 6) q4
            simp only [InV, List.getElem?_toArray, List.getElem?_cons_zero, List.getElem?_cons_succ] at c64
            simp only at own4k
            obtain ⟨kb, ko, kc, hes, hrk, _⟩ := own4k.slN.at (i := i - 1) (by omega)
            subst hes
            have k0 : cellAt h4 ⟨kb, ko + (i - 1), none⟩ = some (.int .i64 (ks.getD (i - 1) 0)) := by
              have := hrk 0 (.int .i64 (ks.getD (i - 1) 0)) (by simp [intsV, show i - 1 < ks.length by omega])
              simpa using this
            have hib1 : ((i - 1 : Nat) : Int) < (ks.length : Int) := by omega
            rw [show ks.length - 1 = i - 1 by omega] at hR
            by_cases hle : kv ≤ ks.getD (i - 1) 0
            case' pos =>
              rw [if_pos ⟨hks, hle⟩] at hR
              simp (disch := first | omega | assumption) only [C.dec_choice_gos, vs, Go.Vc.vk, T.ts, ↓reduceIte, Nat.reduceEqDiff, reduceCtorEq, Nat.reduceLeDiff, Nat.reducePow, Int.reducePow, Int.reduceToNat, Nat.reduceAdd, hv4, fx4, c64, hi0', e1, hib1, k0, hle]
              refine eff_call_of ?_
              simp (disch := first | omega | assumption) only [C.dec_choice_gos, vs, Go.Vc.vk, T.ts, ↓reduceIte, Nat.reduceEqDiff, reduceCtorEq, Nat.reduceLeDiff, Nat.reducePow, Int.reducePow, Int.reduceToNat, Nat.reduceAdd]
              refine (fail_any 15 a D4.rd).mono ?_
              intro v5 h5 hp5
              have D5 := D4.step hp5.1 hp5.2
              clear hp5
              obtain ⟨s2, hs2⟩ : ∃ y, y = failS 15 a s4 := ⟨_, rfl⟩
              have hpp3 : s2.e = 0 → 4 * i + s9.p ≤ s2.p := by
                rw [hs2]; unfold failS; intro h0
                split at h0
                · cases h0
                · contradiction
              rw [← hs2] at D5 hR
              obtain ⟨vk5, vt5, q5, own5k, own5t, dj5⟩ := id D5.xr
              have c6 := cellAt_of (j := 6) q5
              simp only [InV, List.getElem?_toArray, List.getElem?_cons_zero, List.getElem?_cons_succ] at c6
              simp (disch := first | omega | assumption) only [C.dec_choice_gos, vs, Go.Vc.vk, T.ts, ↓reduceIte, Nat.reduceEqDiff, reduceCtorEq, Nat.reduceLeDiff, Nat.reducePow, Int.reducePow, Int.reduceToNat, Nat.reduceAdd, c6]
            case' neg =>
              rw [if_neg (fun hh => hle hh.2)] at hR
              obtain ⟨s2, hs2⟩ : ∃ y, y = s4 := ⟨_, rfl⟩
              have hpp3 : s2.e = 0 → 4 * i + s9.p ≤ s2.p := by
                rw [hs2]; intro h0
                have := hs4 h0
                have := hpp he0
                omega
              have D5 := D4
              rw [← hs2] at D5 hR
              have q5 := q4
              have own5k := own4k
              have own5t := own4t
              have dj5 := dj4
              simp (disch := first | omega | assumption) only [C.dec_choice_gos, vs, Go.Vc.vk, T.ts, ↓reduceIte, Nat.reduceEqDiff, reduceCtorEq, Nat.reduceLeDiff, Nat.reducePow, Int.reducePow, Int.reduceToNat, Nat.reduceAdd, hv4, fx4, c64, hi0', e1, hib1, k0, hle]
          all_goals
            refine eff_lits T.slT_33 rfl rfl (by decide) ?_
            simp (disch := first | omega | assumption) only [C.dec_choice_gos, vs, Go.Vc.vk, T.ts, ↓reduceIte, Nat.reduceEqDiff, reduceCtorEq, Nat.reduceLeDiff, Nat.reducePow, Int.reducePow, Int.reduceToNat, Nat.reduceAdd]
            refine eff_append_ownF (m := 1) T.slT_33 rfl rfl (own5k.push _) rfl (Rd_new (vs := [.int .i64 kv])) (by simp [oneCell]) (by show ks.length + 1 ≤ _; omega) (by show (ks.length + 1) * _ ≤ _; omega) (by have := D5.size; simp; omega) ?_
            intro v6 h6 own6 fr6 _ fresh6
            obtain ⟨a6, c6', rfl, _⟩ := own6.slN.2
            have D5p := D5.push (.cells #[.int .i64 kv] 3)
            have q5p := push_blk (o' := .cells #[.int .i64 kv] 3) q5
            have q6 := Fr_blk fr6 q5p (Own_ne (own5k.push _) q5p (by decide))
            simp (disch := first | omega | assumption) only [C.dec_choice_gos, vs, Go.Vc.vk, T.ts, ↓reduceIte, Nat.reduceEqDiff, reduceCtorEq, Nat.reduceLeDiff, Nat.reducePow, Int.reducePow, Int.reduceToNat, Nat.reduceAdd]
            refine eff_store1_z T.zr_33 rfl rfl rfl rfl rfl (by rw [cellAt_of q6]; rfl) (by simp [frozenAt, q6]) ?_
            have D7 := D5p.addK q5p (own5k.push _) (own5t.push _) dj5 own6 fr6 fresh6
            generalize setAt h6 ⟨q, 6, none⟩ _ = h7 at *
            have D5 : DS h h7 g q h.size l { x2 with keys := ks ++ [kv], tgts := ts } s2 := D7
            have hkl2 : (ks ++ [kv]).length ≤ i + 1 := by simp; omega
            have hki2 : 11 = 11 → (ks ++ [kv]).length = i + 1 := fun _ => by simp; omega
            have hpp2 := hpp3
            clear D7 D5p q5p q6 own6 fr6 fresh6 q5 own5k own5t dj5
            obtain ⟨ks2, hks2⟩ : ∃ y, y = ks ++ [kv] := ⟨_, rfl⟩
            rw [← hks2] at hR hkl2 hki2 D5
            obtain ⟨vk5, vt5, q5, own5k, own5t, dj5⟩ := id D5.xr
            have c7 := cellAt_of (j := 7) q5
            simp only [InV, List.getElem?_toArray, List.getElem?_cons_zero, List.getElem?_cons_succ] at c7
            have fx5 := D5.cells
            simp only [ha2] at fx5
            simp (disch := first | omega | assumption) only [C.dec_choice_gos, vs, Go.Vc.vk, T.ts, ↓reduceIte, Nat.reduceEqDiff, reduceCtorEq, Nat.reduceLeDiff, Nat.reducePow, Int.reducePow, Int.reduceToNat, Nat.reduceAdd, fx5, c7]
        all_goals
          refine eff_call_of ?_
          simp (disch := first | omega | assumption) only [C.dec_choice_gos, vs, Go.Vc.vk, T.ts, ↓reduceIte, Nat.reduceEqDiff, reduceCtorEq, Nat.reduceLeDiff, Nat.reducePow, Int.reducePow, Int.reduceToNat, Nat.reduceAdd]
          refine (dsgn_any 4 (by omega) hl D5.rd).mono ?_
          intro v8 h8 hp8
          have D8 := D5.step hp8.1 hp8.2.1
          have hv8 := hp8.2.2
          have f8 := hp8.1
          clear hp8
          have q8 := Fr_blk f8 q5 D5.gq.1
          have own8k := own5k.fr f8 (fun k hk hS => by subst hS; exact Own_ne own5k D5.rd.1 (by decide) hk)
          have own8t := own5t.fr f8 (fun k hk hS => by subst hS; exact Own_ne own5t D5.rd.1 (by decide) hk)
          have b8 := sgnD_fit l 4 s2 (by omega)
          have hs8 := sgn4_p (l := l) (s := s2)
          generalize sgnD l 4 s2 = T8 at *
          obtain ⟨tv, s8⟩ := T8
          simp only at hR hv8 D8 hs8 b8 own8k own8t
          have c78 := cellAt_of (j := 7) q8
          simp only [InV, List.getElem?_toArray, List.getElem?_cons_zero, List.getElem?_cons_succ] at c78
          have fx8 := D8.cells
          simp only [ha2] at fx8
          simp (disch := first | omega | assumption) only [C.dec_choice_gos, vs, Go.Vc.vk, T.ts, ↓reduceIte, Nat.reduceEqDiff, reduceCtorEq, Nat.reduceLeDiff, Nat.reducePow, Int.reducePow, Int.reduceToNat, Nat.reduceAdd, hv8, fx8, c78]
          refine eff_lits T.slT_33 rfl rfl (by decide) ?_
          simp (disch := first | omega | assumption) only [C.dec_choice_gos, vs, Go.Vc.vk, T.ts, ↓reduceIte, Nat.reduceEqDiff, reduceCtorEq, Nat.reduceLeDiff, Nat.reducePow, Int.reducePow, Int.reduceToNat, Nat.reduceAdd]
          refine ⟨by rw [cellAt_of (push_blk q8)]; rfl, ?_⟩
          refine eff_append_ownF (m := 1) T.slT_33 rfl rfl (own8t.push _) rfl (Rd_new (vs := [.int .i64 ((a : Int) + tv)])) (by simp [oneCell]) (by omega) (by omega) (by have := D8.size; simp; omega) ?_
          intro v9 h9' own9 fr9 _ fresh9
          obtain ⟨a9, c9, rfl, _⟩ := own9.slN.2
          have D8p := D8.push (.cells #[.int .i64 ((a : Int) + tv)] 3)
          have q8p := push_blk (o' := .cells #[.int .i64 ((a : Int) + tv)] 3) q8
          have q9 := Fr_blk fr9 q8p (Own_ne (own8t.push _) q8p (by decide))
          simp (disch := first | omega | assumption) only [C.dec_choice_gos, vs, Go.Vc.vk, T.ts, ↓reduceIte, Nat.reduceEqDiff, reduceCtorEq, Nat.reduceLeDiff, Nat.reducePow, Int.reducePow, Int.reduceToNat, Nat.reduceAdd]
          refine eff_store1_z T.zr_33 rfl rfl rfl rfl rfl (by rw [cellAt_of q9]; rfl) (by simp [frozenAt, q9]) ?_
          have D9 := D8p.addT q8p (own8k.push _) (own8t.push _) dj5 own9 fr9 fresh9
          generalize setAt h9' ⟨q, 7, none⟩ _ = h10 at *
          simp (disch := first | omega | assumption) only [C.dec_choice_gos, vs, Go.Vc.vk, T.ts, ↓reduceIte, Nat.reduceEqDiff, reduceCtorEq, Nat.reduceLeDiff, Nat.reducePow, Int.reducePow, Int.reduceToNat, Nat.reduceAdd]
          have hfin : s8.e = 0 → 4 * (i + 1) + s9.p ≤ s8.p := by
            intro h0
            have h8 := hs8 h0
            have h9 := hpp2 h8.1
            omega
          have D10 : DS h h10 g q h.size l { x2 with keys := ks2, tgts := ts ++ [(a : Int) + tv] } s8 := D9
          first
            | exact ⟨_, Nat.lt_succ_self _, i + 1, r, (ks2, ts ++ [(a : Int) + tv], s8), rfl, by omega, hki2 rfl, hkl2, by simp [htl], by simp, D10, hR, hfin⟩
            | exact ⟨_, Nat.lt_succ_self _, i + 1, r, (ks2, ts ++ [(a : Int) + tv], s8), rfl, by omega, hkl2, by simp [htl], by simp, D10, hR, hfin⟩
    rcases hf with rfl | rfl
    · rw [if_pos rfl] at hY
      rw [show ((10 : Nat) : Int) = 10 from rfl] at *
      simp (disch := first | omega | assumption) only [C.dec_choice_gos, vs, Go.Vc.vk, T.ts, ↓reduceIte, Nat.reduceEqDiff, reduceCtorEq, Nat.reduceLeDiff, Nat.reducePow, Int.reducePow, Int.reduceToNat, Nat.reduceAdd, hv7, fx7, Int.reduceEq, decide_true, decide_false]
      refine eff_store1_z T.zr_3 rfl rfl rfl rfl rfl fx7.2.2.2.2.2.1 (D7.notfz 5) ?_
      have D8 := D7.set 5 (.int .i64 n) { x with tgts := [(a : Int) + t0], low := n } rfl rfl (fun _ _ => rfl)
      generalize setAt h7 ⟨q, 5, none⟩ (.int .i64 n) = h8 at *
      have fx8 := D8.cells
      rw [ha] at fx8
      simp (disch := first | omega | assumption) only [C.dec_choice_gos, vs, Go.Vc.vk, T.ts, ↓reduceIte, Nat.reduceEqDiff, reduceCtorEq, Nat.reduceLeDiff, Nat.reducePow, Int.reducePow, Int.reduceToNat, Nat.reduceAdd, fx8]
      refine eff_call_of ?_
      simp (disch := first | omega | assumption) only [C.dec_choice_gos, vs, Go.Vc.vk, T.ts, ↓reduceIte, Nat.reduceEqDiff, reduceCtorEq, Nat.reduceLeDiff, Nat.reducePow, Int.reducePow, Int.reduceToNat, Nat.reduceAdd]
      refine (dsgn_any 4 (by omega) hl D8.rd).mono ?_
      intro v9 h9 hp9
      have D9 := D8.step hp9.1 hp9.2.1
      have hv9 := hp9.2.2
      clear hp9
      have b9 := sgnD_fit l 4 s7 (by omega)
      generalize hT9 : sgnD l 4 s7 = T9 at *
      obtain ⟨hi, s9⟩ := T9
      simp only at hv9 hY b9 D9
      have fx9 := D9.cells
      rw [ha] at fx9
      by_cases hlow : hi < n
      · rw [if_pos hlow] at hY
        subst hY
        simp (disch := first | omega | assumption) only [C.dec_choice_gos, vs, Go.Vc.vk, T.ts, ↓reduceIte, Nat.reduceEqDiff, reduceCtorEq, Nat.reduceLeDiff, Nat.reducePow, Int.reducePow, Int.reduceToNat, Nat.reduceAdd, hv9, fx9, hlow]
        refine eff_call_of ?_
        simp (disch := first | omega | assumption) only [C.dec_choice_gos, vs, Go.Vc.vk, T.ts, ↓reduceIte, Nat.reduceEqDiff, reduceCtorEq, Nat.reduceLeDiff, Nat.reducePow, Int.reducePow, Int.reduceToNat, Nat.reduceAdd]
        refine (fail_any 15 a D9.rd).mono ?_
        intro v10 h10 hp10
        have D10 := D9.step hp10.1 hp10.2
        clear hp10
        simp (disch := first | omega | assumption) only [C.dec_choice_gos, vs, Go.Vc.vk, T.ts, ↓reduceIte, Nat.reduceEqDiff, reduceCtorEq, Nat.reduceLeDiff, Nat.reducePow, Int.reducePow, Int.reduceToNat, Nat.reduceAdd]
        exact ⟨D10.fr, D10.rd, D10.xr⟩
      · rw [if_neg hlow] at hY
        obtain ⟨cnt, hcnt⟩ : ∃ cnt : Nat, hi - n + 1 = (cnt : Int) := ⟨(hi - n + 1).toNat, by omega⟩
        rw [hcnt, Int.toNat_natCast] at hY
        have hneg : ¬ (cnt : Int) < 0 := by omega
        simp (disch := first | omega | assumption) only [C.dec_choice_gos, vs, Go.Vc.vk, T.ts, ↓reduceIte, Nat.reduceEqDiff, reduceCtorEq, Nat.reduceLeDiff, Nat.reducePow, Int.reducePow, Int.reduceToNat, Nat.reduceAdd, hv9, fx9, hlow, hcnt, hneg]
        refine rows { x with tgts := [(a : Int) + t0], low := n } cnt s9 h9 ha hk rfl (by omega) D9 hY _ ?_
        simp only [vs, Go.Vc.vk, ↓reduceIte, Nat.reduceEqDiff, reduceCtorEq, Nat.reduceLeDiff, Nat.reducePow, Int.reducePow, Int.reduceToNat, Nat.reduceAdd]
    · rw [if_neg (by decide)] at hY
      rw [show ((11 : Nat) : Int) = 11 from rfl] at *
      by_cases hneg : n < 0
      · rw [if_pos hneg] at hY
        subst hY
        simp (disch := first | omega | assumption) only [C.dec_choice_gos, vs, Go.Vc.vk, T.ts, ↓reduceIte, Nat.reduceEqDiff, reduceCtorEq, Nat.reduceLeDiff, Nat.reducePow, Int.reducePow, Int.reduceToNat, Nat.reduceAdd, hv7, fx7, hneg, Int.reduceEq, decide_true, decide_false]
        refine eff_call_of ?_
        simp (disch := first | omega | assumption) only [C.dec_choice_gos, vs, Go.Vc.vk, T.ts, ↓reduceIte, Nat.reduceEqDiff, reduceCtorEq, Nat.reduceLeDiff, Nat.reducePow, Int.reducePow, Int.reduceToNat, Nat.reduceAdd]
        refine (fail_any 15 a D7.rd).mono ?_
        intro v10 h10 hp10
        have D10 := D7.step hp10.1 hp10.2
        clear hp10
        simp (disch := first | omega | assumption) only [C.dec_choice_gos, vs, Go.Vc.vk, T.ts, ↓reduceIte, Nat.reduceEqDiff, reduceCtorEq, Nat.reduceLeDiff, Nat.reducePow, Int.reducePow, Int.reduceToNat, Nat.reduceAdd]
        exact ⟨D10.fr, D10.rd, D10.xr⟩
      · rw [if_neg hneg] at hY
        obtain ⟨cnt, rfl⟩ : ∃ cnt : Nat, n = (cnt : Int) := ⟨n.toNat, by omega⟩
        rw [Int.toNat_natCast] at hY
        simp (disch := first | omega | assumption) only [C.dec_choice_gos, vs, Go.Vc.vk, T.ts, ↓reduceIte, Nat.reduceEqDiff, reduceCtorEq, Nat.reduceLeDiff, Nat.reducePow, Int.reducePow, Int.reduceToNat, Nat.reduceAdd, hv7, fx7, hneg, Int.reduceEq, decide_true, decide_false]
        refine rows { x with tgts := [(a : Int) + t0] } cnt s7 h7 ha hk rfl (by omega) D7 hY _ ?_
        simp only [vs, Go.Vc.vk, ↓reduceIte, Nat.reduceEqDiff, reduceCtorEq, Nat.reduceLeDiff, Nat.reducePow, Int.reducePow, Int.reduceToNat, Nat.reduceAdd]
end
end Go.Proofs.Ytjpcpkhegjndeaa

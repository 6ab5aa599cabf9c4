/- All looked at: a thing marked, by the program. No condition. -/
import Derived.Test.YtidkokdkldfglaaUH
import Derived.Test.YtidkokdkldfglaaUN
namespace Go.Proofs.Ytidkokdkldfglaa
open Go.Vc
set_option maxRecDepth 100000
set_option linter.unusedSimpArgs false
set_option linter.unusedVariables false

/-- One step more, that may also turn what is newer than the start. -/
theorem Stp.more {base : Nat} {h h' h'' : Heap} {p p' p'' : Ph} {s s' s'' : St} (A : Stp base h h' p p' s s') (R : Rep base h'' p'' s'') (F : Fr (fun k => foot p' s' k ∨ h.size ≤ k) h' h'') (N : ∀ k, foot p'' s'' k → foot p' s' k ∨ h.size ≤ k) : Stp base h h'' p p'' s s'' := by
  refine ⟨R, Fr.trans A.fr F (fun _ _ h => h) fun k hk hp => ?_, fun k hk => ?_⟩
  · rcases hp with h1 | h1
    · rcases A.nw k h1 with h2 | h2
      · exact h2
      · omega
    · omega
  · rcases N k hk with h1 | h1
    · exact A.nw k h1
    · exact .inr h1
/-- What marking keeps, and where it is. -/
structure MS (base : Nat) (h0 : Heap) (pI : Ph) (sI : St) (p : Ph) (b tq : Nat) (hc : Heap) (s : St) (todo : List Nat) (tv : Value) : Prop where
  st : Stp base h0 hc pI p sI s
  bx : Bx hc p s b
  b0 : h0.size ≤ b
  t0 : h0.size ≤ tq
  bt : b ≠ tq
  tb : hc[tq]? = some (.cells #[tv] 68 (0, 0))
  to : Own hc h0.size 51 1 tv todo.length (todo.map refV)
  tn : ¬ foot p s tq
  tk : ∀ k, tv.ownBlock = some k → ¬ foot p s k ∧ k ≠ tq ∧ k ≠ b
theorem MS.tcell {base : Nat} {h0 hc : Heap} {pI p : Ph} {sI s : St} {b tq : Nat} {todo : List Nat} {tv : Value} (W : MS base h0 pI sI p b tq hc s todo tv) : cellAt hc ⟨tq, 0, none⟩ = some tv ∧ frozenAt hc ⟨tq, 0, none⟩ = false :=
  ⟨by rw [cellAt_of W.tb]; rfl, by simp [frozenAt, W.tb]⟩
/-- The thing is marked. -/
theorem MS.mark {base : Nat} {h0 hc : Heap} {pI p : Ph} {sI s : St} {b tq : Nat} {todo : List Nat} {tv : Value} (W : MS base h0 pI sI p b tq hc s todo tv) {x : Nat} {c : CP} (hc' : s.old[x]? = some c) :
    MS base h0 pI sI p b tq (setAt hc ⟨p.O, x * 7 + 5, none⟩ (.int .u32 (x : Int))) { s with old := s.old.set x { c with to := x } } todo tv := by
  have S := W.st.rep.oldc (c' := { c with to := x }) (v := .int .u32 (x : Int)) hc' (j := 5) (by decide) rfl
  have fT : tq < hc.size := (Array.getElem?_eq_some_iff.1 W.tb).1
  refine ⟨W.st.trans S, W.bx.stp S Pk.refl, W.b0, W.t0, W.bt, ?_, ?_, W.tn, W.tk⟩
  · rw [S.fr.same tq fT W.tn]; exact W.tb
  · exact W.to.fr S.fr fun k hk => (W.tk k hk).1
/-- The list is longer by one. -/
theorem MS.push {base : Nat} {h0 hc h1 : Heap} {pI p : Ph} {sI s : St} {b tq : Nat} {todo todo' : List Nat} {tv tv' : Value} (W : MS base h0 pI sI p b tq hc s todo tv)
    (F : Fr (fun k => tv.ownBlock = some k) hc h1) (O : Own h1 h0.size 51 1 tv' todo'.length (todo'.map refV)) (N : ∀ k, tv'.ownBlock = some k → tv.ownBlock = some k ∨ hc.size ≤ k) :
    MS base h0 pI sI p b tq (setAt h1 ⟨tq, 0, none⟩ tv') s todo' tv' := by
  have fT : tq < hc.size := (Array.getElem?_eq_some_iff.1 W.tb).1
  have own : ∀ k, tv.ownBlock = some k → h0.size ≤ k := fun k hk => (W.to.lt k hk).1
  have F2 : Fr (fun k => k = tq) h1 (setAt h1 ⟨tq, 0, none⟩ tv') := fr_set
  have F3 : Fr (fun k => tv.ownBlock = some k ∨ k = tq) hc (setAt h1 ⟨tq, 0, none⟩ tv') := Fr.trans F F2 (fun _ _ h => .inl h) (fun _ _ h => .inr h)
  have R : Rep base (setAt h1 ⟨tq, 0, none⟩ tv') p s := W.st.rep.fr F3 fun k hk hd => by
    rcases hd with h | h
    · exact (W.tk k h).1 hk
    · subst h; exact W.tn hk
  have htb : h1[tq]? = some (.cells #[tv] 68 (0, 0)) := by rw [F.same tq fT fun h => (W.tk tq h).2.1 rfl]; exact W.tb
  have nk : ∀ k, tv'.ownBlock = some k → ¬ foot p s k ∧ k ≠ tq ∧ k ≠ b := by
    intro k hk
    rcases N k hk with h | h
    · exact W.tk k h
    · exact ⟨fun hf => by have := (W.st.rep.lt hf).2; omega, by omega, by have := W.bx.lt; omega⟩
  refine ⟨W.st.more R (F3.mono fun k _ hk => ?_) fun k hk => .inl hk, ⟨?_, W.bx.n⟩, W.b0, W.t0, W.bt, ?_, ?_, W.tn, nk⟩
  · rcases hk with h | h
    · exact .inr (own k h)
    · rw [h]; exact .inr W.t0
  · rw [F3.same b W.bx.lt (by
      rintro (h | h)
      · exact (W.tk b h).2.2 rfl
      · exact W.bt h)]
    exact W.bx.bb
  · rw [setAt_get htb]; rfl
  · exact O.fr F2 fun k hk e => (nk k hk).2.1 e
set_option maxHeartbeats 1000000 in
theorem Major1_any {base : Nat} {h0 hc : Heap} {pI p : Ph} {sI s : St} {b tq : Nat} {todo : List Nat} {tv : Value} (W : MS base h0 pI sI p b tq hc s todo tv) {loc : Loc} {x : Nat} (hl : getL s loc = some x) (hx : x < s.old.length) (hx31 : x < 2147483648)
    (htl : todo.length ≤ 1000000) (h0c : h0.size ≤ hc.size) : HCalls Try.prog 48 #[ptr (locB p loc) (locO loc), ptr b 0, ptr tq 0] hc fun v h' => ∃ tv', MS base h0 pI sI p b tq h' (markP s x) (markT s todo x) tv' ∧ h0.size ≤ h'.size := by
  refine C.h_Major1_calls (args := [ptr (locB p loc) (locO loc), ptr b 0, ptr tq 0]) rfl ?_
  have lc := (W.st.rep.locc hl).1
  obtain ⟨c, hcr⟩ : ∃ c, s.old[x]? = some c := ⟨s.old[x], by simp⟩
  have lk : look s x = some c := by unfold look; rw [if_pos hx31]; exact hcr
  have bx := W.bx.get
  have ea : adrB p x = p.O := by unfold adrB; rw [if_pos hx31]
  have eo : adrO x = x * 7 := by unfold adrO; rw [if_pos hx31]
  have A := at_any W.st.rep lk (by omega)
  rw [ea, eo] at A
  have a5 : cellAt hc ⟨p.O, x * 7 + 5, none⟩ = some (.int .u32 (c.to : Int)) := by have := W.st.rep.a5 lk; rw [ea, eo] at this; exact this
  have z5 : frozenAt hc ⟨p.O, x * 7 + 5, none⟩ = false := by have := W.st.rep.frozen lk (j := 5) (by decide); rw [ea, eo] at this; exact this
  simp (disch := first | omega | assumption) only [C.h_Major1_gos, T.tv, ↓reduceIte, Nat.reduceEqDiff, reduceCtorEq, Nat.reduceLeDiff, Nat.reducePow, Int.reducePow, Int.reduceToNat, Nat.reduceAdd, lc, refV, bx]
  refine eff_callF rfl (A.mono ?_)
  rintro v1 h1 ⟨rfl, rfl⟩
  by_cases c1 : x = 0
  · have c1' : (x : Int) = 0 := by omega
    simp (disch := first | omega | assumption) only [C.h_Major1_gos, T.tv, ↓reduceIte, Nat.reduceEqDiff, reduceCtorEq, Nat.reduceLeDiff, Nat.reducePow, Int.reducePow, Int.reduceToNat, Nat.reduceAdd, lc, refV, bx, c1']
    have e1 : markP s x = s := by unfold markP; rw [hcr]; simp only; rw [if_neg (by simp [c1])]
    have e2 : markT s todo x = todo := by unfold markT; rw [hcr]; simp only; rw [if_neg (by simp [c1])]
    rw [e1, e2]
    exact ⟨tv, W, h0c⟩
  have c1' : ¬ (x : Int) = 0 := by omega
  by_cases c2 : c.to = 0
  · have c2' : (c.to : Int) = 0 := by omega
    simp (disch := first | omega | assumption) only [C.h_Major1_gos, T.tv, ↓reduceIte, Nat.reduceEqDiff, reduceCtorEq, Nat.reduceLeDiff, Nat.reducePow, Int.reducePow, Int.reduceToNat, Nat.reduceAdd, lc, refV, bx, c1', a5, c2']
    refine eff_store1_z T.zr_51 rfl rfl rfl rfl rfl a5 z5 ?_
    have W1 := W.mark hcr
    have e1 : markP s x = { s with old := s.old.set x { c with to := x } } := by unfold markP; rw [hcr]; simp only; rw [if_pos ⟨c1, c2⟩]
    have e2 : markT s todo x = todo ++ [x] := by unfold markT; rw [hcr]; simp only; rw [if_pos ⟨c1, c2⟩]
    rw [← e1] at W1
    have hl1 : getL (markP s x) loc = some x := by rw [e1]; cases loc <;> exact hl
    clear lc bx a5 z5 A
    have h0c1 : h0.size ≤ (setAt h1 ⟨p.O, x * 7 + 5, none⟩ (.int .u32 (x : Int))).size := by rw [setAt_size]; exact h0c
    generalize setAt h1 ⟨p.O, x * 7 + 5, none⟩ (.int .u32 (x : Int)) = h2 at *
    have lc := (W1.st.rep.locc hl1).1
    have tc := W1.tcell.1
    simp (disch := first | omega | assumption) only [C.h_Major1_gos, T.tv, ↓reduceIte, Nat.reduceEqDiff, reduceCtorEq, Nat.reduceLeDiff, Nat.reducePow, Int.reducePow, Int.reduceToNat, Nat.reduceAdd, lc, refV, tc]
    refine eff_lits T.slT_68 rfl rfl (by decide) ?_
    have X3 := Ext.push h2 (.cells #[.int .u32 (x : Int)] 51)
    have rd3 : Rd (h2.push (.cells #[.int .u32 (x : Int)] 51)) h2.size 0 [refV x] := Rd_new (vs := [refV x])
    have fT : tq < h2.size := (Array.getElem?_eq_some_iff.1 W1.tb).1
    have W2 : MS base h0 pI sI p b tq (h2.push (.cells #[.int .u32 (x : Int)] 51)) (markP s x) todo tv :=
      ⟨W1.st.ext X3, W1.bx.ext X3, W1.b0, W1.t0, W1.bt, by rw [X3.same tq fT id]; exact W1.tb, W1.to.ext X3, W1.tn, W1.tk⟩
    simp (disch := first | omega | assumption) only [C.h_Major1_gos, T.tv, ↓reduceIte, Nat.reduceEqDiff, reduceCtorEq, Nat.reduceLeDiff, Nat.reducePow, Int.reducePow, Int.reduceToNat, Nat.reduceAdd]
    generalize h2.push (.cells #[.int .u32 (x : Int)] 51) = h3 at *
    have tc := W2.tcell.1
    refine ⟨tc, ?_⟩
    refine eff_append_ownF (m := 1) T.slT_68 rfl rfl W2.to rfl rd3 (by simp [oneCell, refV]) (by omega) (by omega) (Nat.le_trans h0c1 X3.size) ?_
    intro v' h4 o4 f4 _ n4
    obtain ⟨q, cq, rfl⟩ : ∃ q cq, v' = .slice (some ⟨q, 0, none⟩) (todo.length + 1) cq := Own_pos o4
    have W3 := W2.push (todo' := todo ++ [x]) (tv' := .slice (some ⟨q, 0, none⟩) (todo.length + 1) cq) f4 (by simpa using o4) n4
    have fT3 : tq < h3.size := (Array.getElem?_eq_some_iff.1 W2.tb).1
    have htb : h4[tq]? = some (.cells #[tv] 68 (0, 0)) := by rw [f4.same tq fT3 fun h => (W2.tk tq h).2.1 rfl]; exact W2.tb
    have tc4 : cellAt h4 ⟨tq, 0, none⟩ = some tv := by rw [cellAt_of htb]; rfl
    have tz4 : frozenAt h4 ⟨tq, 0, none⟩ = false := by simp [frozenAt, htb]
    simp (disch := first | omega | assumption) only [C.h_Major1_gos, T.tv, ↓reduceIte, Nat.reduceEqDiff, reduceCtorEq, Nat.reduceLeDiff, Nat.reducePow, Int.reducePow, Int.reduceToNat, Nat.reduceAdd]
    refine eff_store1_z T.zr_68 rfl rfl rfl rfl rfl tc4 tz4 ?_
    simp (disch := first | omega | assumption) only [C.h_Major1_gos, T.tv, ↓reduceIte, Nat.reduceEqDiff, reduceCtorEq, Nat.reduceLeDiff, Nat.reducePow, Int.reducePow, Int.reduceToNat, Nat.reduceAdd]
    rw [e2]
    exact ⟨_, W3, Nat.le_trans h0c1 (Nat.le_trans X3.size (Nat.le_trans f4.size (by rw [setAt_size]; exact Nat.le_refl _)))⟩
  · have c2' : ¬ (c.to : Int) = 0 := by omega
    simp (disch := first | omega | assumption) only [C.h_Major1_gos, T.tv, ↓reduceIte, Nat.reduceEqDiff, reduceCtorEq, Nat.reduceLeDiff, Nat.reducePow, Int.reducePow, Int.reduceToNat, Nat.reduceAdd, lc, refV, bx, c1', a5, c2']
    have e1 : markP s x = s := by unfold markP; rw [hcr]; simp only; rw [if_neg (by simp [c2])]
    have e2 : markT s todo x = todo := by unfold markT; rw [hcr]; simp only; rw [if_neg (by simp [c2])]
    rw [e1, e2]
    exact ⟨tv, W, h0c⟩
end Go.Proofs.Ytidkokdkldfglaa

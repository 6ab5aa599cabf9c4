/- The answer of a step, by the program; two spaces. No condition. -/
import Derived.Test.YtidkokdkldfglaaUY
import Derived.Test.YtidkokdkldfglaaCl
namespace Go.Proofs.Ytidkokdkldfglaa
open Go.Vc
set_option maxRecDepth 100000
set_option linter.unusedSimpArgs false
set_option linter.unusedVariables false

/-- One step. -/
structure OpP where
  k : Int
  a : Int
  b : Int
  c : Int
  x : Nat
def OpP.row (o : OpP) : List Value := [.int .i64 o.k, .int .i64 o.a, .int .i64 o.b, .int .i64 o.c, wordV o.x]
noncomputable def ans (a : AS) (o : OpP) : AS × Nat × Int :=
  if o.k = 1 then ((aMake a o.a o.b o.c).1, 0, (aMake a o.a o.b o.c).2) else if o.k = 2 then ((aCopy a o.a o.b).1, 0, (aCopy a o.a o.b).2)
  else if o.k = 3 then ((aDrop a o.a).1, 0, (aDrop a o.a).2) else if o.k = 4 then ((aPut a o.a o.b o.c).1, 0, (aPut a o.a o.b o.c).2)
  else if o.k = 5 then ((aGet a o.a o.b o.c).1, 0, (aGet a o.a o.b o.c).2) else if o.k = 6 then ((aSet a o.a o.b o.x).1, 0, (aSet a o.a o.b o.x).2)
  else if o.k = 7 then (a, (aWord a o.a o.b).1, (aWord a o.a o.b).2) else if o.k = 8 then (a, (if (aSame a o.a o.b).1 = true then 1 else 0), (aSame a o.a o.b).2) else (a, 0, 0)
section
variable {base : Nat} {h : Heap} {p : Ph} {s : St} {a : AS}
theorem Gd.ext {h' : Heap} (G : Gd base h p s a) (E : Ext h h') : Gd base h' p s a := ⟨G.r.ext E, G.i, G.m, G.ro, Nat.le_trans G.b E.size⟩
theorem Nx.pre {h' h'' : Heap} {a' : AS} (E : Ext h h') (N : Nx base h' h'' p s a') : Nx base h h'' p s a' := by
  obtain ⟨p', s', S, r⟩ := N
  exact ⟨p', s', Stp.pre E S, r⟩
set_option maxHeartbeats 2000000 in
theorem answer_any (G : Gd base h p s a) (o : OpP) : HCalls Try.prog 15 #[ptr p.S 0, .agg o.row.toArray] h fun v h' => Nx base h h' p s (ans a o).1 ∧ v = .tuple #[wordV (ans a o).2.1, .int .i64 (ans a o).2.2] := by
  refine C.law5_answer_calls (args := [ptr p.S 0, .agg o.row.toArray]) rfl ?_
  simp (disch := first | omega | assumption) only [C.law5_answer_gos, T.tv, ↓reduceIte, Nat.reduceEqDiff, reduceCtorEq, Nat.reduceLeDiff, Nat.reducePow, Int.reducePow, Int.reduceToNat, Nat.reduceAdd]
  refine eff_box ?_
  have X := Ext.push h (.cells o.row.toArray 32 (0, 0))
  have G1 := G.ext X
  have hb : (h.push (.cells o.row.toArray 32 (0, 0)))[h.size]? = some (.cells o.row.toArray 32 (0, 0)) := by simp
  obtain ⟨b, hbb⟩ : ∃ b, b = h.size := ⟨_, rfl⟩
  simp (disch := first | omega | assumption) only [C.law5_answer_gos, T.tv, ↓reduceIte, Nat.reduceEqDiff, reduceCtorEq, Nat.reduceLeDiff, Nat.reducePow, Int.reducePow, Int.reduceToNat, Nat.reduceAdd]
  rw [← hbb]
  rw [← hbb] at hb
  generalize h.push (.cells o.row.toArray 32 (0, 0)) = h1 at *
  have f0 : cellAt h1 ⟨b, 0, none⟩ = some (.int .i64 o.k) := by rw [cellAt_of hb]; rfl
  have f1 : cellAt h1 ⟨b, 1, none⟩ = some (.int .i64 o.a) := by rw [cellAt_of hb]; rfl
  have f2 : cellAt h1 ⟨b, 2, none⟩ = some (.int .i64 o.b) := by rw [cellAt_of hb]; rfl
  have f3 : cellAt h1 ⟨b, 3, none⟩ = some (.int .i64 o.c) := by rw [cellAt_of hb]; rfl
  have f4 : cellAt h1 ⟨b, 4, none⟩ = some (wordV o.x) := by rw [cellAt_of hb]; rfl
  generalize hans : ans a o = A
  unfold ans at hans
  by_cases c1 : o.k = 1
  · rw [if_pos c1] at hans
    subst hans
    simp (disch := first | omega | assumption) only [C.law5_answer_gos, T.tv, ↓reduceIte, Nat.reduceEqDiff, reduceCtorEq, Nat.reduceLeDiff, Nat.reducePow, Int.reducePow, Int.reduceToNat, Nat.reduceAdd, f0, f1, f2, f3, f4, c1, Int.reduceEq]
    refine eff_callF rfl ((sMake_any G1).mono ?_)
    rintro v h2 ⟨N, rfl⟩
    simp (disch := first | omega | assumption) only [C.law5_answer_gos, T.tv, ↓reduceIte, Nat.reduceEqDiff, reduceCtorEq, Nat.reduceLeDiff, Nat.reducePow, Int.reducePow, Int.reduceToNat, Nat.reduceAdd, wordV]
    first | exact N.pre X | exact ⟨N.pre X, rfl⟩
  by_cases c2 : o.k = 2
  · rw [if_neg c1, if_pos c2] at hans
    subst hans
    simp (disch := first | omega | assumption) only [C.law5_answer_gos, T.tv, ↓reduceIte, Nat.reduceEqDiff, reduceCtorEq, Nat.reduceLeDiff, Nat.reducePow, Int.reducePow, Int.reduceToNat, Nat.reduceAdd, f0, f1, f2, f3, f4, c2, Int.reduceEq]
    refine eff_callF rfl ((sCopy_any G1).mono ?_)
    rintro v h2 ⟨N, rfl⟩
    simp (disch := first | omega | assumption) only [C.law5_answer_gos, T.tv, ↓reduceIte, Nat.reduceEqDiff, reduceCtorEq, Nat.reduceLeDiff, Nat.reducePow, Int.reducePow, Int.reduceToNat, Nat.reduceAdd, wordV]
    first | exact N.pre X | exact ⟨N.pre X, rfl⟩
  by_cases c3 : o.k = 3
  · rw [if_neg c1, if_neg c2, if_pos c3] at hans
    subst hans
    simp (disch := first | omega | assumption) only [C.law5_answer_gos, T.tv, ↓reduceIte, Nat.reduceEqDiff, reduceCtorEq, Nat.reduceLeDiff, Nat.reducePow, Int.reducePow, Int.reduceToNat, Nat.reduceAdd, f0, f1, f2, f3, f4, c3, Int.reduceEq]
    refine eff_callF rfl ((sDrop_any G1).mono ?_)
    rintro v h2 ⟨N, rfl⟩
    simp (disch := first | omega | assumption) only [C.law5_answer_gos, T.tv, ↓reduceIte, Nat.reduceEqDiff, reduceCtorEq, Nat.reduceLeDiff, Nat.reducePow, Int.reducePow, Int.reduceToNat, Nat.reduceAdd, wordV]
    first | exact N.pre X | exact ⟨N.pre X, rfl⟩
  by_cases c4 : o.k = 4
  · rw [if_neg c1, if_neg c2, if_neg c3, if_pos c4] at hans
    subst hans
    simp (disch := first | omega | assumption) only [C.law5_answer_gos, T.tv, ↓reduceIte, Nat.reduceEqDiff, reduceCtorEq, Nat.reduceLeDiff, Nat.reducePow, Int.reducePow, Int.reduceToNat, Nat.reduceAdd, f0, f1, f2, f3, f4, c4, Int.reduceEq]
    refine eff_callF rfl ((sPut_any G1).mono ?_)
    rintro v h2 ⟨N, rfl⟩
    simp (disch := first | omega | assumption) only [C.law5_answer_gos, T.tv, ↓reduceIte, Nat.reduceEqDiff, reduceCtorEq, Nat.reduceLeDiff, Nat.reducePow, Int.reducePow, Int.reduceToNat, Nat.reduceAdd, wordV]
    first | exact N.pre X | exact ⟨N.pre X, rfl⟩
  by_cases c5 : o.k = 5
  · rw [if_neg c1, if_neg c2, if_neg c3, if_neg c4, if_pos c5] at hans
    subst hans
    simp (disch := first | omega | assumption) only [C.law5_answer_gos, T.tv, ↓reduceIte, Nat.reduceEqDiff, reduceCtorEq, Nat.reduceLeDiff, Nat.reducePow, Int.reducePow, Int.reduceToNat, Nat.reduceAdd, f0, f1, f2, f3, f4, c5, Int.reduceEq]
    refine eff_callF rfl ((sGet_any G1).mono ?_)
    rintro v h2 ⟨N, rfl⟩
    simp (disch := first | omega | assumption) only [C.law5_answer_gos, T.tv, ↓reduceIte, Nat.reduceEqDiff, reduceCtorEq, Nat.reduceLeDiff, Nat.reducePow, Int.reducePow, Int.reduceToNat, Nat.reduceAdd, wordV]
    first | exact N.pre X | exact ⟨N.pre X, rfl⟩
  by_cases c6 : o.k = 6
  · rw [if_neg c1, if_neg c2, if_neg c3, if_neg c4, if_neg c5, if_pos c6] at hans
    subst hans
    simp (disch := first | omega | assumption) only [C.law5_answer_gos, T.tv, ↓reduceIte, Nat.reduceEqDiff, reduceCtorEq, Nat.reduceLeDiff, Nat.reducePow, Int.reducePow, Int.reduceToNat, Nat.reduceAdd, f0, f1, f2, f3, f4, c6, Int.reduceEq]
    refine eff_callF rfl ((sSet_any G1).mono ?_)
    rintro v h2 ⟨N, rfl⟩
    simp (disch := first | omega | assumption) only [C.law5_answer_gos, T.tv, ↓reduceIte, Nat.reduceEqDiff, reduceCtorEq, Nat.reduceLeDiff, Nat.reducePow, Int.reducePow, Int.reduceToNat, Nat.reduceAdd, wordV]
    first | exact N.pre X | exact ⟨N.pre X, rfl⟩
  by_cases c7 : o.k = 7
  · rw [if_neg c1, if_neg c2, if_neg c3, if_neg c4, if_neg c5, if_neg c6, if_pos c7] at hans
    subst hans
    simp (disch := first | omega | assumption) only [C.law5_answer_gos, T.tv, ↓reduceIte, Nat.reduceEqDiff, reduceCtorEq, Nat.reduceLeDiff, Nat.reducePow, Int.reducePow, Int.reduceToNat, Nat.reduceAdd, f0, f1, f2, f3, f4, c7, Int.reduceEq]
    refine eff_callF rfl ((sWord_any G1).mono ?_)
    rintro v h2 ⟨rfl, rfl⟩
    simp (disch := first | omega | assumption) only [C.law5_answer_gos, T.tv, ↓reduceIte, Nat.reduceEqDiff, reduceCtorEq, Nat.reduceLeDiff, Nat.reducePow, Int.reducePow, Int.reduceToNat, Nat.reduceAdd, wordV]
    first | exact (G1.stay).pre X | exact ⟨(G1.stay).pre X, rfl⟩
  by_cases c8 : o.k = 8
  · rw [if_neg c1, if_neg c2, if_neg c3, if_neg c4, if_neg c5, if_neg c6, if_neg c7, if_pos c8] at hans
    subst hans
    simp (disch := first | omega | assumption) only [C.law5_answer_gos, T.tv, ↓reduceIte, Nat.reduceEqDiff, reduceCtorEq, Nat.reduceLeDiff, Nat.reducePow, Int.reducePow, Int.reduceToNat, Nat.reduceAdd, f0, f1, f2, f3, f4, c8, Int.reduceEq]
    refine eff_callF rfl ((sSame_any G1).mono ?_)
    rintro v h2 ⟨rfl, rfl⟩
    cases hs : (aSame a o.a o.b).1 with
    | true =>
      simp (disch := first | omega | assumption) only [C.law5_answer_gos, T.tv, ↓reduceIte, Nat.reduceEqDiff, reduceCtorEq, Nat.reduceLeDiff, Nat.reducePow, Int.reducePow, Int.reduceToNat, Nat.reduceAdd, hs, wordV]
      have z1 : ((1 : Nat) : Int) = 1 := rfl
      first | exact (G1.stay).pre X | exact ⟨(G1.stay).pre X, rfl⟩
    | false =>
      simp (disch := first | omega | assumption) only [C.law5_answer_gos, T.tv, ↓reduceIte, Nat.reduceEqDiff, reduceCtorEq, Nat.reduceLeDiff, Nat.reducePow, Int.reducePow, Int.reduceToNat, Nat.reduceAdd, hs, wordV]
      first | exact (G1.stay).pre X | exact ⟨(G1.stay).pre X, rfl⟩
  rw [if_neg c1, if_neg c2, if_neg c3, if_neg c4, if_neg c5, if_neg c6, if_neg c7, if_neg c8] at hans
  subst hans
  simp (disch := first | omega | assumption) only [C.law5_answer_gos, T.tv, ↓reduceIte, Nat.reduceEqDiff, reduceCtorEq, Nat.reduceLeDiff, Nat.reducePow, Int.reducePow, Int.reduceToNat, Nat.reduceAdd, f0, f1, f2, f3, f4, c1, c2, c3, c4, c5, c6, c7, c8, Int.reduceEq, wordV]
  first | exact (G1.stay).pre X | exact ⟨(G1.stay).pre X, rfl⟩
end
/-- Two spaces, apart. -/
structure Tw (h0 hc : Heap) (pa : Ph) (sa : St) (A : AS) (pb : Ph) (sb : St) (B : AS) : Prop where
  a : Gd h0.size hc pa sa A
  b : Gd h0.size hc pb sb B
  d : ∀ k, foot pa sa k → ¬ foot pb sb k
  x : Ext h0 hc
theorem Gd.other {base : Nat} {h h' : Heap} {p p' q : Ph} {s s' t : St} {a : AS} (G : Gd base h q t a) (S : Stp base h h' p p' s s') (d : ∀ k, foot p s k → ¬ foot q t k) : Gd base h' q t a ∧ ∀ k, foot p' s' k → ¬ foot q t k := by
  refine ⟨⟨G.r.fr S.fr fun k hk hp => d k hp hk, G.i, G.m, G.ro, Nat.le_trans G.b S.fr.size⟩, fun k hk hq => ?_⟩
  rcases S.nw k hk with h1 | h1
  · exact d k h1 hq
  · have := (G.r.lt hq).2; omega
theorem Tw.left {h0 hc h' : Heap} {pa pb : Ph} {sa sb : St} {A B A' : AS} (T : Tw h0 hc pa sa A pb sb B) (N : Nx h0.size hc h' pa sa A') : ∃ pa' sa', Tw h0 h' pa' sa' A' pb sb B ∧ pa'.S = pa.S := by
  obtain ⟨p', s', S, pk, I, M, er⟩ := N
  obtain ⟨g1, g2⟩ := T.b.other S T.d
  refine ⟨p', s', ⟨⟨S.rep, I, M, by rw [er]; exact T.a.ro, Nat.le_trans T.a.b S.fr.size⟩, g1, g2, Fr.trans T.x S.fr (fun _ _ h => h) fun k hk hf => ?_⟩, pk.1⟩
  have := (T.a.r.lt hf).1; omega
theorem Tw.right {h0 hc h' : Heap} {pa pb : Ph} {sa sb : St} {A B B' : AS} (T : Tw h0 hc pa sa A pb sb B) (N : Nx h0.size hc h' pb sb B') : ∃ pb' sb', Tw h0 h' pa sa A pb' sb' B' ∧ pb'.S = pb.S := by
  obtain ⟨p', s', S, pk, I, M, er⟩ := N
  obtain ⟨g1, g2⟩ := T.a.other S fun k h1 h2 => T.d k h2 h1
  refine ⟨p', s', ⟨g1, ⟨S.rep, I, M, by rw [er]; exact T.b.ro, Nat.le_trans T.b.b S.fr.size⟩, fun k h1 h2 => g2 k h2 h1, Fr.trans T.x S.fr (fun _ _ h => h) fun k hk hf => ?_⟩, pk.1⟩
  have := (T.b.r.lt hf).1; omega
theorem Tw.ext {h0 hc h' : Heap} {pa pb : Ph} {sa sb : St} {A B : AS} (T : Tw h0 hc pa sa A pb sb B) (E : Ext hc h') : Tw h0 h' pa sa A pb sb B := ⟨T.a.ext E, T.b.ext E, T.d, T.x.trans E⟩
theorem Gd.base {base base' : Nat} {h : Heap} {p : Ph} {s : St} {a : AS} (G : Gd base h p s a) (hb : base' ≤ base) : Gd base' h p s a :=
  ⟨⟨G.r.sp, G.r.hp, G.r.yo.mono hb, G.r.oo.mono hb, G.r.fo.mono hb, fun g l hg => ⟨Nat.le_trans hb (G.r.rs g l hg).1, (G.r.rs g l hg).2⟩, fun g l hg => ⟨Nat.le_trans hb (G.r.ws g l hg).1, (G.r.ws g l hg).2⟩, G.r.ne, Nat.le_trans hb G.r.bs.1, Nat.le_trans hb G.r.bs.2⟩, G.i, G.m, G.ro, Nat.le_trans hb G.b⟩
end Go.Proofs.Ytidkokdkldfglaa

/- The reference's reading of classes: numbers, attributes. -/
import Derived.Test.YtohkbpnblkkdgaaLW
import Derived.Test.YtohkbpnblkkdgaaCza
namespace Go.Proofs.Ytohkbpnblkkdgaa
open Go.Vc
set_option maxRecDepth 100000
set_option linter.unusedSimpArgs false
set_option linter.unusedVariables false

/-- A reading: the bytes' cut, and the pool. -/
structure RG (hx : Heap) (g gc : Nat) (l : List UInt8) (p : List Cst) (vp : Value) (t : RS) : Prop where
  q : hx[g]? = some (.cells #[.pointer (some ⟨gc, 0, none⟩), vp] 112 (0, 0))
  r : Cutr hx gc l t
  p : SlN hx 5 vp p.length (flatS p)
  nb : ¬ vp.ownBlock = some gc
  ne : g ≠ gc
section
variable {h hx : Heap} {g gc : Nat} {l : List UInt8} {p : List Cst} {vp : Value} {t u : RS}
theorem RG.frR (D : RG h g gc l p vp t) (f : FrR gc h hx) (r : Cutr hx gc l u) : RG hx g gc l p vp u :=
  ⟨Fr_blk f D.q D.ne, r, D.p.fr (by decide) f (fun k _ hk hS => D.nb (by rw [hk, hS])), D.nb, D.ne⟩
theorem RG.k0 (D : RG h g gc l p vp t) : cellAt h ⟨g, 0, none⟩ = some (.pointer (some ⟨gc, 0, none⟩)) := by rw [cellAt_of D.q]; rfl
theorem RG.k1 (D : RG h g gc l p vp t) : cellAt h ⟨g, 1, none⟩ = some vp := by rw [cellAt_of D.q]; rfl
/-- A block of another kind is written, or a block is new. -/
theorem RG.fr {S : Nat → Prop} (D : RG h g gc l p vp t) (f : Fr S h hx) (h1 : ¬ S g) (h2 : ¬ S gc) (h3 : ∀ k, k < h.size → vp.ownBlock = some k → ¬ S k) : RG hx g gc l p vp t :=
  ⟨Fr_blk f D.q h1, D.r.fr f h2, D.p.fr (by decide) f h3, D.nb, D.ne⟩
theorem rindex_any (hl : l.length ≤ 1073741824) (D : RG h g gc l p vp t) :
    HCalls Try.prog 59 #[.pointer (some ⟨g, 0, none⟩)] h fun v h' => FrR gc h h' ∧ Cutr h' gc l (numS l 2 t).2 ∧ v = .int .u16 (numS l 2 t).1 := by
  refine C.rr_index_calls (args := [.pointer (some ⟨g, 0, none⟩)]) rfl ?_
  have k0 := D.k0
  simp (disch := first | omega | assumption) only [C.rr_index_gos, vs, Go.Vc.vk, T.ts, ↓reduceIte, Nat.reduceEqDiff, reduceCtorEq, Nat.reduceLeDiff, Nat.reducePow, Int.reducePow, Int.reduceToNat, Nat.reduceAdd, k0]
  refine eff_call_of ?_
  simp (disch := first | omega | assumption) only [C.rr_index_gos, vs, Go.Vc.vk, T.ts, ↓reduceIte, Nat.reduceEqDiff, reduceCtorEq, Nat.reduceLeDiff, Nat.reducePow, Int.reducePow, Int.reduceToNat, Nat.reduceAdd]
  refine (cnum_any 2 hl (by omega) D.r).mono ?_
  rintro _ h1 ⟨f1, r1, rfl⟩
  have hn := @numS_lt l 2 t
  simp only [Nat.reducePow] at hn
  have hw : IntKind.u16.wrap ((numS l 2 t).1 : Int) = ((numS l 2 t).1 : Int) := wrap_u16 (by omega) (by omega)
  simp (disch := first | omega | assumption) only [C.rr_index_gos, vs, Go.Vc.vk, T.ts, ↓reduceIte, Nat.reduceEqDiff, reduceCtorEq, Nat.reduceLeDiff, Nat.reducePow, Int.reducePow, Int.reduceToNat, Nat.reduceAdd, hw]
  exact ⟨f1, r1⟩
/-- How much is said to be in an attribute. -/
def attB (p : List Cst) (l : List UInt8) (s : RS) : Nat × RS := numS l 4 (if isS p (numS l 2 s).1 1 = true then (numS l 2 s).2 else failS 7 s.p (numS l 2 s).2)
theorem attrsR_step {σ : Type} {p : List Cst} {l : List UInt8} {take : Take σ} {k : Nat} {x : σ} {s : RS} (h : s.e = 0) :
    attrsR p l take (k + 1) x s = if (attB p l s).2.e ≠ 0 then (x, (attB p l s).2)
      else match take (strS p (numS l 2 s).1) s.p (attB p l s).1 x (attB p l s).2 with
        | none => attrsR p l take k x (takeS l (attB p l s).1 (attB p l s).2).2
        | some y => attrsR p l take k y.1 (if y.2.p = (attB p l s).2.p + (attB p l s).1 then y.2 else failS 12 s.p y.2) := by
  rw [attrsR, if_neg (by simp [h])]; rfl
/-- What an attribute's head says: its name, and its end. -/
structure AttP (p : List Cst) (l : List UInt8) (t : RS) (nm : List UInt8) (en : Int) : Prop where
  bad : (attB p l t).2.e ≠ 0 → nm = [] ∧ en = -1
  ok : (attB p l t).2.e = 0 → nm = strS p (numS l 2 t).1 ∧ en = (((attB p l t).2.p + (attB p l t).1 : Nat) : Int)
  lt : (attB p l t).1 < 4294967296
set_option maxHeartbeats 4000000 in
theorem rattribute_any (hl : l.length ≤ 1073741824) (D : RG h g gc l p vp t) :
    HCalls Try.prog 63 #[.pointer (some ⟨g, 0, none⟩)] h fun v h' => FrR gc h h' ∧ Cutr h' gc l (attB p l t).2 ∧ ∃ nm en, v = .tuple #[str nm, .int .i64 (t.p : Int), .int .i64 en] ∧ AttP p l t nm en := by
  refine C.rr_attribute_calls (args := [.pointer (some ⟨g, 0, none⟩)]) rfl ?_
  have k0 := D.k0
  have c1 := D.r.c1
  simp (disch := first | omega | assumption) only [C.rr_attribute_gos, vs, Go.Vc.vk, T.ts, ↓reduceIte, Nat.reduceEqDiff, reduceCtorEq, Nat.reduceLeDiff, Nat.reducePow, Int.reducePow, Int.reduceToNat, Nat.reduceAdd, k0, c1]
  refine eff_call_of ?_
  simp (disch := first | omega | assumption) only [C.rr_attribute_gos, vs, Go.Vc.vk, T.ts, ↓reduceIte, Nat.reduceEqDiff, reduceCtorEq, Nat.reduceLeDiff, Nat.reducePow, Int.reducePow, Int.reduceToNat, Nat.reduceAdd]
  refine (cnum_any 2 hl (by omega) D.r).mono ?_
  rintro _ h1 ⟨f1, r1, rfl⟩
  have D1 := D.frR f1 r1
  have k0 := D1.k0
  have k1 := D1.k1
  simp (disch := first | omega | assumption) only [C.rr_attribute_gos, vs, Go.Vc.vk, T.ts, ↓reduceIte, Nat.reduceEqDiff, reduceCtorEq, Nat.reduceLeDiff, Nat.reducePow, Int.reducePow, Int.reduceToNat, Nat.reduceAdd, k0, k1]
  refine eff_call_of ?_
  simp (disch := first | omega | assumption) only [C.rr_attribute_gos, vs, Go.Vc.vk, T.ts, ↓reduceIte, Nat.reduceEqDiff, reduceCtorEq, Nat.reduceLeDiff, Nat.reducePow, Int.reducePow, Int.reduceToNat, Nat.reduceAdd]
  refine (rstring_any (numS l 2 t).1 D1.p).mono ?_
  rintro _ h2 ⟨rfl, rfl⟩
  have c2 := r1.c2
  obtain ⟨s2, hs2⟩ : ∃ s2, s2 = (if isS p (numS l 2 t).1 1 = true then (numS l 2 t).2 else failS 7 t.p (numS l 2 t).2) := ⟨_, rfl⟩
  have hB : attB p l t = numS l 4 s2 := by unfold attB; rw [← hs2]
  have hst : (if isS p (numS l 2 t).1 1 = true then (p.getD (numS l 2 t).1 Cst.zero).text else []) = strS p (numS l 2 t).1 := rfl
  rw [hst]
  refine Or.elim (Classical.em ((numS l 2 t).2.e = 0)) (fun he => ?caA) (fun he => ?cbA)
  case' cbA =>
    have he' : ¬ ((numS l 2 t).2.e : Int) = 0 := by omega
    rw [failS_e he, ite_self] at hs2
    rw [← hs2] at D1 r1 c2 he'
    simp (disch := first | omega | assumption) only [C.rr_attribute_gos, vs, Go.Vc.vk, T.ts, ↓reduceIte, Nat.reduceEqDiff, reduceCtorEq, Nat.reduceLeDiff, Nat.reducePow, Int.reducePow, Int.reduceToNat, Nat.reduceAdd, k0, c2, eq_false he']
    obtain ⟨h3, hh3⟩ : ∃ h3, h3 = h2 := ⟨_, rfl⟩
    rw [← hh3]
    have D3 : RG h3 g gc l p vp s2 := by rw [hh3]; exact D1
    have f3 : FrR gc h h3 := by rw [hh3]; exact f1
    clear hh3 D1 f1 r1 c2 he'
  case' caA =>
    have he' : ((numS l 2 t).2.e : Int) = 0 := by omega
    refine Or.elim (Classical.em (isS p (numS l 2 t).1 1 = true)) (fun his => ?cc) (fun his => ?cd)
  case' cc =>
    rw [if_pos his] at hs2
    rw [← hs2] at D1 r1 c2 he'
    simp (disch := first | omega | assumption) only [C.rr_attribute_gos, vs, Go.Vc.vk, T.ts, ↓reduceIte, Nat.reduceEqDiff, reduceCtorEq, Nat.reduceLeDiff, Nat.reducePow, Int.reducePow, Int.reduceToNat, Nat.reduceAdd, k0, c2, eq_true he', his]
    obtain ⟨h3, hh3⟩ : ∃ h3, h3 = h2 := ⟨_, rfl⟩
    rw [← hh3]
    have D3 : RG h3 g gc l p vp s2 := by rw [hh3]; exact D1
    have f3 : FrR gc h h3 := by rw [hh3]; exact f1
    clear hh3 D1 f1 r1 c2 he'
  case' cd =>
    rw [if_neg his] at hs2
    have his' : isS p (numS l 2 t).1 1 = false := by simpa using his
    simp (disch := first | omega | assumption) only [C.rr_attribute_gos, vs, Go.Vc.vk, T.ts, ↓reduceIte, Nat.reduceEqDiff, reduceCtorEq, Nat.reduceLeDiff, Nat.reducePow, Int.reducePow, Int.reduceToNat, Nat.reduceAdd, k0, c2, eq_true he', his']
    refine eff_call_of ?_
    simp (disch := first | omega | assumption) only [C.rr_attribute_gos, vs, Go.Vc.vk, T.ts, ↓reduceIte, Nat.reduceEqDiff, reduceCtorEq, Nat.reduceLeDiff, Nat.reducePow, Int.reducePow, Int.reduceToNat, Nat.reduceAdd]
    refine (cfail_any 7 t.p r1).mono ?_
    rintro _ h3 ⟨f3', r3⟩
    rw [← hs2] at r3
    have D3 : RG h3 g gc l p vp s2 := D1.frR f3' r3
    have f3 : FrR gc h h3 := FrR.trans' f1 f3'
    clear k0
    have k0 := D3.k0
    simp (disch := first | omega | assumption) only [C.rr_attribute_gos, vs, Go.Vc.vk, T.ts, ↓reduceIte, Nat.reduceEqDiff, reduceCtorEq, Nat.reduceLeDiff, Nat.reducePow, Int.reducePow, Int.reduceToNat, Nat.reduceAdd, k0]
    clear D1 f1 r1 c2 he' f3'
  all_goals
    clear k0 k1
    refine eff_call_of ?_
    simp (disch := first | omega | assumption) only [C.rr_attribute_gos, vs, Go.Vc.vk, T.ts, ↓reduceIte, Nat.reduceEqDiff, reduceCtorEq, Nat.reduceLeDiff, Nat.reducePow, Int.reducePow, Int.reduceToNat, Nat.reduceAdd]
    refine (cnum_any 4 hl (by omega) D3.r).mono ?_
    rintro _ h4 ⟨f4, r4, rfl⟩
    have hn := @numS_lt l 4 s2
    simp only [Nat.reducePow] at hn
    rw [← hB] at r4 hn ⊢
    have D4 := D3.frR f4 r4
    have f5 := FrR.trans' f3 f4
    generalize hb : attB p l t = b at *
    have k0 := D4.k0
    have c1 := D4.r.c1
    have c2 := D4.r.c2
    have hp := D4.r.2
    by_cases he4 : b.2.e = 0
    · have he4' : (b.2.e : Int) = 0 := by omega
      have hw : IntKind.i64.wrap ((b.2.p : Int) + (b.1 : Int)) = ((b.2.p + b.1 : Nat) : Int) := by rw [wrap_i64 (by omega) (by omega)]; omega
      simp (disch := first | omega | assumption) only [C.rr_attribute_gos, vs, Go.Vc.vk, T.ts, ↓reduceIte, Nat.reduceEqDiff, reduceCtorEq, Nat.reduceLeDiff, Nat.reducePow, Int.reducePow, Int.reduceToNat, Nat.reduceAdd, k0, c1, c2, eq_true he4', hw]
      exact ⟨f5, D4.r, _, _, rfl, ⟨by rw [hb]; intro hh; exact absurd he4 hh, by rw [hb]; intro _; exact ⟨rfl, rfl⟩, by rw [hb]; exact hn⟩⟩
    · have he4' : ¬ (b.2.e : Int) = 0 := by omega
      simp (disch := first | omega | assumption) only [C.rr_attribute_gos, vs, Go.Vc.vk, T.ts, ↓reduceIte, Nat.reduceEqDiff, reduceCtorEq, Nat.reduceLeDiff, Nat.reducePow, Int.reducePow, Int.reduceToNat, Nat.reduceAdd, k0, c1, c2, eq_false he4']
      exact ⟨f5, D4.r, _, _, rfl, ⟨by rw [hb]; intro hh; exact ⟨rfl, rfl⟩, by rw [hb]; intro hh; exact absurd hh he4, by rw [hb]; exact hn⟩⟩
theorem ctake_bad (n : Int) (H : Cutr h gc l t) (he : t.e ≠ 0) : HCalls Try.prog 58 #[.pointer (some ⟨gc, 0, none⟩), .int .i64 n] h fun v h' => h' = h ∧ v = str [] := by
  refine C.cut_take_calls (args := [.pointer (some ⟨gc, 0, none⟩), .int .i64 n]) rfl ?_
  have c2 := H.c2
  have he' : ¬ (t.e : Int) = 0 := by omega
  simp (disch := first | omega | assumption) only [C.cut_take_gos, vs, Go.Vc.vk, T.ts, ↓reduceIte, Nat.reduceEqDiff, reduceCtorEq, Nat.reduceLeDiff, Nat.reducePow, Int.reducePow, Int.reduceToNat, Nat.reduceAdd, c2, eq_false he']
/-- Behind an attribute. -/
def overS (l : List UInt8) (looked : Bool) (q : Nat) (en : Int) (u : RS) : RS :=
  if looked = true then (if (u.p : Int) = en then u else failS 12 q u) else if u.e ≠ 0 then u else (takeS l (en - u.p).toNat u).2
set_option maxHeartbeats 4000000 in
theorem rover_any (hl : l.length ≤ 1073741824) (D : RG h g gc l p vp u) (looked : Bool) (q : Nat) (en : Int) (h1 : -1 ≤ en) (h2 : en ≤ 1099511627776) (h3 : looked = false → u.e = 0 → (u.p : Int) ≤ en) :
    HCalls Try.prog 64 #[.pointer (some ⟨g, 0, none⟩), .bool looked, .int .i64 (q : Int), .int .i64 en] h fun _ h' => FrR gc h h' ∧ Cutr h' gc l (overS l looked q en u) := by
  refine C.rr_over_calls (args := [.pointer (some ⟨g, 0, none⟩), .bool looked, .int .i64 (q : Int), .int .i64 en]) rfl ?_
  have k0 := D.k0
  have c1 := D.r.c1
  have c2 := D.r.c2
  have hp := D.r.2
  have hw : IntKind.i64.wrap (en - (u.p : Int)) = en - (u.p : Int) := wrap_i64 (by omega) (by omega)
  cases looked with
  | false =>
    simp (disch := first | omega | assumption) only [C.rr_over_gos, vs, Go.Vc.vk, T.ts, ↓reduceIte, Nat.reduceEqDiff, reduceCtorEq, Nat.reduceLeDiff, Nat.reducePow, Int.reducePow, Int.reduceToNat, Nat.reduceAdd, k0, c1, c2, hw]
    refine eff_call_of ?_
    simp (disch := first | omega | assumption) only [C.rr_over_gos, vs, Go.Vc.vk, T.ts, ↓reduceIte, Nat.reduceEqDiff, reduceCtorEq, Nat.reduceLeDiff, Nat.reducePow, Int.reducePow, Int.reduceToNat, Nat.reduceAdd]
    by_cases he : u.e = 0
    · have h4 := h3 rfl he
      have e1 : en - (u.p : Int) = (((en - (u.p : Int)).toNat : Nat) : Int) := by omega
      have hT : overS l false q en u = (takeS l (en - (u.p : Int)).toNat u).2 := by unfold overS; simp [he]
      rw [hT, e1]
      refine (ctake_any (en - (u.p : Int)).toNat hl (by omega) D.r).mono ?_
      rintro _ h5 ⟨f5, r5, rfl⟩
      simp (disch := first | omega | assumption) only [C.rr_over_gos, vs, Go.Vc.vk, T.ts, ↓reduceIte, Nat.reduceEqDiff, reduceCtorEq, Nat.reduceLeDiff, Nat.reducePow, Int.reducePow, Int.reduceToNat, Nat.reduceAdd]
      exact ⟨f5, by simpa using r5⟩
    · have hT : overS l false q en u = u := by unfold overS; simp [he]
      rw [hT]
      refine (ctake_bad _ D.r he).mono ?_
      rintro _ h5 ⟨rfl, rfl⟩
      simp (disch := first | omega | assumption) only [C.rr_over_gos, vs, Go.Vc.vk, T.ts, ↓reduceIte, Nat.reduceEqDiff, reduceCtorEq, Nat.reduceLeDiff, Nat.reducePow, Int.reducePow, Int.reduceToNat, Nat.reduceAdd]
      exact ⟨FrR.ext (Ext.refl _), D.r⟩
  | true =>
    by_cases he : u.e = 0
    · have he' : (u.e : Int) = 0 := by omega
      by_cases hpe : (u.p : Int) = en
      · have hT : overS l true q en u = u := by unfold overS; simp [hpe]
        rw [hT]
        simp (disch := first | omega | assumption) only [C.rr_over_gos, vs, Go.Vc.vk, T.ts, ↓reduceIte, Nat.reduceEqDiff, reduceCtorEq, Nat.reduceLeDiff, Nat.reducePow, Int.reducePow, Int.reduceToNat, Nat.reduceAdd, k0, c1, c2, hw, eq_true he', eq_true hpe]
        exact ⟨FrR.ext (Ext.refl _), D.r⟩
      · have hT : overS l true q en u = failS 12 q u := by unfold overS; simp [hpe]
        rw [hT]
        simp (disch := first | omega | assumption) only [C.rr_over_gos, vs, Go.Vc.vk, T.ts, ↓reduceIte, Nat.reduceEqDiff, reduceCtorEq, Nat.reduceLeDiff, Nat.reducePow, Int.reducePow, Int.reduceToNat, Nat.reduceAdd, k0, c1, c2, hw, eq_true he', eq_false hpe]
        refine eff_call_of ?_
        simp (disch := first | omega | assumption) only [C.rr_over_gos, vs, Go.Vc.vk, T.ts, ↓reduceIte, Nat.reduceEqDiff, reduceCtorEq, Nat.reduceLeDiff, Nat.reducePow, Int.reducePow, Int.reduceToNat, Nat.reduceAdd]
        refine (cfail_any 12 q D.r).mono ?_
        rintro _ h5 ⟨f5, r5⟩
        simp (disch := first | omega | assumption) only [C.rr_over_gos, vs, Go.Vc.vk, T.ts, ↓reduceIte, Nat.reduceEqDiff, reduceCtorEq, Nat.reduceLeDiff, Nat.reducePow, Int.reducePow, Int.reduceToNat, Nat.reduceAdd]
        exact ⟨f5, r5⟩
    · have he' : ¬ (u.e : Int) = 0 := by omega
      have hT : overS l true q en u = u := by unfold overS; rw [failS_e he]; simp
      rw [hT]
      simp (disch := first | omega | assumption) only [C.rr_over_gos, vs, Go.Vc.vk, T.ts, ↓reduceIte, Nat.reduceEqDiff, reduceCtorEq, Nat.reduceLeDiff, Nat.reducePow, Int.reducePow, Int.reduceToNat, Nat.reduceAdd, k0, c1, c2, hw, eq_false he']
      exact ⟨FrR.ext (Ext.refl _), D.r⟩
end
end Go.Proofs.Ytohkbpnblkkdgaa

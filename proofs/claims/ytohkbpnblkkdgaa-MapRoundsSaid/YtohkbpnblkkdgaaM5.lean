/- The writer's frame. -/
import Derived.Test.YtohkbpnblkkdgaaM3
import Derived.Test.YtohkbpnblkkdgaaM4
namespace Go.Proofs.Ytohkbpnblkkdgaa
open Go.Vc
set_option maxRecDepth 100000
set_option linter.unusedSimpArgs false
set_option linter.unusedVariables false

def likeS (L loc : List VT) : Bool := decide (L.take (min L.length loc.length) = loc.take (min L.length loc.length))
def defS (p : List Cst) (f : Frm) (delta : Nat) : List UInt8 × Nat :=
  (UInt8.ofNat 255 :: (bigS delta 2 ++ bigS f.L.length 2 ++ (valsS p f.L).1 ++ bigS f.S.length 2 ++ (valsS p f.S).1), thenE (valsS p f.L).2 (valsS p f.S).2)
def frS (p : List Cst) (f : Frm) (delta : Nat) (loc : List VT) : List UInt8 × Nat :=
  if likeS f.L loc = true then
    if f.L.length = loc.length then
      if f.S.length = 0 then (if delta < 64 then ([UInt8.ofNat delta], 0) else (UInt8.ofNat 251 :: bigS delta 2, 0))
      else if f.S.length = 1 then (if delta < 64 then (UInt8.ofNat (64 + delta) :: (valsS p f.S).1, (valsS p f.S).2) else (UInt8.ofNat 247 :: (bigS delta 2 ++ (valsS p f.S).1), (valsS p f.S).2))
      else defS p f delta
    else if f.S.length = 0 then
      if f.L.length < loc.length then
        (if loc.length ≤ f.L.length + 3 then (UInt8.ofNat (251 + f.L.length - loc.length) :: bigS delta 2, 0) else defS p f delta)
      else
        (if f.L.length ≤ loc.length + 3 then (UInt8.ofNat (251 + f.L.length - loc.length) :: (bigS delta 2 ++ (valsS p (f.L.drop loc.length)).1), (valsS p (f.L.drop loc.length)).2) else defS p f delta)
    else defS p f delta
  else defS p f delta

section
variable {h0 h : Heap} {g : Nat} {vp : Value} {b : List UInt8} {e : Nat} {p : List Cst}
theorem SlN.capped {n : Nat} {xs : List Value} {a : Option Addr} {c c' n' : Nat} (H : SlN h 3 (.slice a n' c) n xs) : n' = n := by
  obtain ⟨_, a', c', he, _⟩ := H
  cases he; rfl
set_option maxHeartbeats 8000000 in
theorem wone_any (f : Frm) (delta : Nat) (loc : List VT) (vL vS vloc : Value) (hd : delta < 65536) (hf1 : f.L.length < 65536) (hf2 : f.S.length < 65536) (hloc : loc.length ≤ 1073741824)
    (hL : SlN h0 3 vL f.L.length (flatV f.L)) (hLc : capOk vL) (hS : SlN h0 3 vS f.S.length (flatV f.S)) (hl : SlN h0 3 vloc loc.length (flatV loc)) (hlc : capOk vloc)
    (hLf : ∀ v ∈ f.L, v.Fit) (hSf : ∀ v ∈ f.S, v.Fit)
    (hp : SlN h0 5 vp p.length (flatS p)) (hpc : capOk vp) (hpf : ∀ c ∈ p, c.Fit) (hpl : p.length ≤ 1099511627776)
    (hb : b.length ≤ 549755813888) (H : Wr h0 h g vp b e) :
    HCalls Try.prog 36 #[.pointer (some ⟨g, 0, none⟩), .agg #[.int .i64 f.at', vL, vS], .int .i64 delta, vloc] h fun _ h' => Wr h0 h' g vp (b ++ (frS p f delta loc).1) (thenE e (frS p f delta loc).2) ∧ KeepB h h' g := by
  refine C.maps_wone_calls (args := [.pointer (some ⟨g, 0, none⟩), .agg #[.int .i64 f.at', vL, vS], .int .i64 delta, vloc]) rfl ?_
  obtain ⟨fat, L, S⟩ := f
  simp only at hf1 hf2 hL hS hLf hSf ⊢
  have hL' := hL
  have hS' := hS
  have hl' := hl
  obtain ⟨_, aL, cL, rfl, _⟩ := hL'
  obtain ⟨_, aS, cS, rfl, _⟩ := hS'
  obtain ⟨_, al, cl, rfl, _⟩ := hl'
  have hcL : L.length ≤ cL := hLc
  have hcl : loc.length ≤ cl := hlc
  have hgs := H.lt
  simp (disch := first | omega | assumption) only [C.maps_wone_gos, vs, Go.Vc.vk, T.ts, ↓reduceIte, Nat.reduceEqDiff, reduceCtorEq, Nat.reduceLeDiff, Nat.reducePow, Int.reducePow, Int.reduceToNat, Nat.reduceAdd]
  refine eff_box ?_
  have fb0 : (h.push (.cells #[.int .i64 fat, .slice aL L.length cL, .slice aS S.length cS] 35))[h.size]? = some (.cells #[.int .i64 fat, .slice aL L.length cL, .slice aS S.length cS] 35 (0, 0)) := by simp
  have H1 := H.ext (Ext.push h (.cells #[.int .i64 fat, .slice aL L.length cL, .slice aS S.length cS] 35))
  have K1 : KeepB h (h.push (.cells #[.int .i64 fat, .slice aL L.length cL, .slice aS S.length cS] 35)) g := KeepB.ext (Ext.push _ _)
  simp (disch := first | omega | assumption) only [C.maps_wone_gos, vs, Go.Vc.vk, T.ts, ↓reduceIte, Nat.reduceEqDiff, reduceCtorEq, Nat.reduceLeDiff, Nat.reducePow, Int.reducePow, Int.reduceToNat, Nat.reduceAdd]
  generalize hh1 : h.push (.cells #[.int .i64 fat, .slice aL L.length cL, .slice aS S.length cS] 35) = h1 at *
  have hfg : h.size ≠ g := by omega
  obtain ⟨fb, hfb⟩ : ∃ x, x = h.size := ⟨_, rfl⟩
  rw [← hfb] at fb0 hfg ⊢
  have c1 : cellAt h1 ⟨fb, 1, none⟩ = some (.slice aL L.length cL) := by rw [cellAt_of fb0]; rfl
  have c2 : cellAt h1 ⟨fb, 2, none⟩ = some (.slice aS S.length cS) := by rw [cellAt_of fb0]; rfl
  obtain ⟨sm, hsm⟩ : ∃ x, x = min L.length loc.length := ⟨_, rfl⟩
  have hmin : (if (loc.length : Int) < L.length then (loc.length : Int) else L.length) = (sm : Int) := by rw [hsm]; split <;> omega
  have hs1 : (sm : Int) ≤ cL := by omega
  have hs2 : (sm : Int) ≤ cl := by omega
  have sub1 := SlN.sub (lo := 0) (hi := sm) (hL.ext (by decide) H1.2.1) (Nat.zero_le _) (by omega) hcL
  have sub2 := SlN.sub (lo := 0) (hi := sm) (hl.ext (by decide) H1.2.1) (Nat.zero_le _) (by omega) hcl
  rw [flatV_take, Nat.zero_mul, List.drop_zero] at sub1 sub2
  simp (disch := first | omega | assumption) only [C.maps_wone_gos, vs, Go.Vc.vk, T.ts, ↓reduceIte, Nat.reduceEqDiff, reduceCtorEq, Nat.reduceLeDiff, Nat.reducePow, Int.reducePow, Int.reduceToNat, Nat.reduceAdd, c1, c2, hmin, hs1, hs2, Int.toNat_natCast]
  refine eff_call_of ?_
  simp (disch := first | omega | assumption) only [C.maps_wone_gos, vs, Go.Vc.vk, T.ts, ↓reduceIte, Nat.reduceEqDiff, reduceCtorEq, Nat.reduceLeDiff, Nat.reducePow, Int.reducePow, Int.reduceToNat, Nat.reduceAdd]
  refine (equal_any (L.take sm) (loc.take sm) _ _ (sm - 0) (sm - 0) (by simp; omega) (by simp; omega) sub1 sub2 (by omega)).mono ?_
  rintro v2 h2 ⟨rfl, rfl⟩
  have hlk : decide (L.take sm = loc.take sm) = likeS L loc := by rw [hsm]; rfl
  rw [hlk]
  have hmulti : ∀ {x y : List UInt8} {q : Nat}, Wr h0 h2 g vp x q → x = y → Wr h0 h2 g vp y q := fun h e => e ▸ h
  clear hmulti sub1 sub2
  by_cases hk : likeS L loc = true
  case neg =>
    have hk' : likeS L loc = false := by simpa using hk
    rw [hk']
    have hfr : frS p ⟨fat, L, S⟩ delta loc = defS p ⟨fat, L, S⟩ delta := by unfold frS; rw [if_neg hk]
    rw [hfr]
    simp (disch := first | omega | assumption) only [C.maps_wone_gos, vs, Go.Vc.vk, T.ts, ↓reduceIte, Nat.reduceEqDiff, reduceCtorEq, Nat.reduceLeDiff, Nat.reducePow, Int.reducePow, Int.reduceToNat, Nat.reduceAdd, c1, c2, Int.reduceEq, Int.reduceNeg, decide_true, decide_false]
    refine eff_call_of ?_
    simp (disch := first | omega | assumption) only [C.maps_wone_gos, vs, Go.Vc.vk, T.ts, ↓reduceIte, Nat.reduceEqDiff, reduceCtorEq, Nat.reduceLeDiff, Nat.reducePow, Int.reducePow, Int.reduceToNat, Nat.reduceAdd]
    refine (wnum_any (255) 1 (by omega) (by first | omega | (simp only [List.length_append, bigS_len, List.length_singleton, List.length_drop]; omega)) H1).mono ?_
    rintro v3 h3 ⟨HW3, HK3'⟩
    have HK3 := K1.trans HK3'
    have fb3 := HK3'.blk fb0 hfg (by decide)
    have e1_3 : cellAt h3 ⟨fb, 1, none⟩ = some (.slice aL L.length cL) := by rw [cellAt_of fb3]; rfl
    have e2_3 : cellAt h3 ⟨fb, 2, none⟩ = some (.slice aS S.length cS) := by rw [cellAt_of fb3]; rfl
    rw [show atU 255 = 255 from rfl, bigS_one] at HW3
    simp (disch := first | omega | assumption) only [C.maps_wone_gos, vs, Go.Vc.vk, T.ts, ↓reduceIte, Nat.reduceEqDiff, reduceCtorEq, Nat.reduceLeDiff, Nat.reducePow, Int.reducePow, Int.reduceToNat, Nat.reduceAdd, e1_3, e2_3]
    refine eff_call_of ?_
    simp (disch := first | omega | assumption) only [C.maps_wone_gos, vs, Go.Vc.vk, T.ts, ↓reduceIte, Nat.reduceEqDiff, reduceCtorEq, Nat.reduceLeDiff, Nat.reducePow, Int.reducePow, Int.reduceToNat, Nat.reduceAdd]
    refine (wnum_any (delta) 2 (by omega) (by first | omega | (simp only [List.length_append, bigS_len, List.length_singleton, List.length_drop]; omega)) HW3).mono ?_
    rintro v4 h4 ⟨HW4, HK4'⟩
    have HK4 := HK3.trans HK4'
    have fb4 := HK4'.blk fb3 hfg (by decide)
    have e1_4 : cellAt h4 ⟨fb, 1, none⟩ = some (.slice aL L.length cL) := by rw [cellAt_of fb4]; rfl
    have e2_4 : cellAt h4 ⟨fb, 2, none⟩ = some (.slice aS S.length cS) := by rw [cellAt_of fb4]; rfl
    rw [atU_nat (by omega)] at HW4
    simp (disch := first | omega | assumption) only [C.maps_wone_gos, vs, Go.Vc.vk, T.ts, ↓reduceIte, Nat.reduceEqDiff, reduceCtorEq, Nat.reduceLeDiff, Nat.reducePow, Int.reducePow, Int.reduceToNat, Nat.reduceAdd, e1_4, e2_4]
    refine eff_call_of ?_
    simp (disch := first | omega | assumption) only [C.maps_wone_gos, vs, Go.Vc.vk, T.ts, ↓reduceIte, Nat.reduceEqDiff, reduceCtorEq, Nat.reduceLeDiff, Nat.reducePow, Int.reducePow, Int.reduceToNat, Nat.reduceAdd]
    refine (wnum_any (L.length) 2 (by omega) (by first | omega | (simp only [List.length_append, bigS_len, List.length_singleton, List.length_drop]; omega)) HW4).mono ?_
    rintro v5 h5 ⟨HW5, HK5'⟩
    have HK5 := HK4.trans HK5'
    have fb5 := HK5'.blk fb4 hfg (by decide)
    have e1_5 : cellAt h5 ⟨fb, 1, none⟩ = some (.slice aL L.length cL) := by rw [cellAt_of fb5]; rfl
    have e2_5 : cellAt h5 ⟨fb, 2, none⟩ = some (.slice aS S.length cS) := by rw [cellAt_of fb5]; rfl
    rw [atU_nat (by omega)] at HW5
    simp (disch := first | omega | assumption) only [C.maps_wone_gos, vs, Go.Vc.vk, T.ts, ↓reduceIte, Nat.reduceEqDiff, reduceCtorEq, Nat.reduceLeDiff, Nat.reducePow, Int.reducePow, Int.reduceToNat, Nat.reduceAdd, e1_5, e2_5]
    refine eff_call_of ?_
    simp (disch := first | omega | assumption) only [C.maps_wone_gos, vs, Go.Vc.vk, T.ts, ↓reduceIte, Nat.reduceEqDiff, reduceCtorEq, Nat.reduceLeDiff, Nat.reducePow, Int.reducePow, Int.reduceToNat, Nat.reduceAdd]
    have hvl6 := valsS_len p (L)
    refine (wvalues_any (L) _ (hL) (fun v hv => hLf v hv) hp hpc hpf hpl (by first | omega | (simp only [List.length_append, bigS_len, List.length_singleton, List.length_drop]; omega)) HW5).mono ?_
    rintro v6 h6 ⟨HW6, HK6'⟩
    have HK6 := HK5.trans HK6'
    have fb6 := HK6'.blk fb5 hfg (by decide)
    have e1_6 : cellAt h6 ⟨fb, 1, none⟩ = some (.slice aL L.length cL) := by rw [cellAt_of fb6]; rfl
    have e2_6 : cellAt h6 ⟨fb, 2, none⟩ = some (.slice aS S.length cS) := by rw [cellAt_of fb6]; rfl
    simp (disch := first | omega | assumption) only [C.maps_wone_gos, vs, Go.Vc.vk, T.ts, ↓reduceIte, Nat.reduceEqDiff, reduceCtorEq, Nat.reduceLeDiff, Nat.reducePow, Int.reducePow, Int.reduceToNat, Nat.reduceAdd, e1_6, e2_6]
    refine eff_call_of ?_
    simp (disch := first | omega | assumption) only [C.maps_wone_gos, vs, Go.Vc.vk, T.ts, ↓reduceIte, Nat.reduceEqDiff, reduceCtorEq, Nat.reduceLeDiff, Nat.reducePow, Int.reducePow, Int.reduceToNat, Nat.reduceAdd]
    refine (wnum_any (S.length) 2 (by omega) (by first | omega | (simp only [List.length_append, bigS_len, List.length_singleton, List.length_drop]; omega)) HW6).mono ?_
    rintro v7 h7 ⟨HW7, HK7'⟩
    have HK7 := HK6.trans HK7'
    have fb7 := HK7'.blk fb6 hfg (by decide)
    have e1_7 : cellAt h7 ⟨fb, 1, none⟩ = some (.slice aL L.length cL) := by rw [cellAt_of fb7]; rfl
    have e2_7 : cellAt h7 ⟨fb, 2, none⟩ = some (.slice aS S.length cS) := by rw [cellAt_of fb7]; rfl
    rw [atU_nat (by omega)] at HW7
    simp (disch := first | omega | assumption) only [C.maps_wone_gos, vs, Go.Vc.vk, T.ts, ↓reduceIte, Nat.reduceEqDiff, reduceCtorEq, Nat.reduceLeDiff, Nat.reducePow, Int.reducePow, Int.reduceToNat, Nat.reduceAdd, e1_7, e2_7]
    refine eff_call_of ?_
    simp (disch := first | omega | assumption) only [C.maps_wone_gos, vs, Go.Vc.vk, T.ts, ↓reduceIte, Nat.reduceEqDiff, reduceCtorEq, Nat.reduceLeDiff, Nat.reducePow, Int.reducePow, Int.reduceToNat, Nat.reduceAdd]
    have hvl8 := valsS_len p (S)
    refine (wvalues_any (S) _ (hS) (fun v hv => hSf v hv) hp hpc hpf hpl (by first | omega | (simp only [List.length_append, bigS_len, List.length_singleton, List.length_drop]; omega)) HW7).mono ?_
    rintro v8 h8 ⟨HW8, HK8'⟩
    have HK8 := HK7.trans HK8'
    have fb8 := HK8'.blk fb7 hfg (by decide)
    have e1_8 : cellAt h8 ⟨fb, 1, none⟩ = some (.slice aL L.length cL) := by rw [cellAt_of fb8]; rfl
    have e2_8 : cellAt h8 ⟨fb, 2, none⟩ = some (.slice aS S.length cS) := by rw [cellAt_of fb8]; rfl
    simp (disch := first | omega | assumption) only [C.maps_wone_gos, vs, Go.Vc.vk, T.ts, ↓reduceIte, Nat.reduceEqDiff, reduceCtorEq, Nat.reduceLeDiff, Nat.reducePow, Int.reducePow, Int.reduceToNat, Nat.reduceAdd]
    refine ⟨?_, HK8⟩
    unfold defS
    rw [← thenE_assoc]
    simpa [List.append_assoc] using HW8
  rw [hk]
  by_cases hn : L.length = loc.length
  · have hn0 : (L.length : Int) - loc.length = 0 := by omega
    by_cases hs0 : S.length = 0
    · have hs0' : (S.length : Int) = 0 := by omega
      by_cases hd64 : delta < 64
      · have hd' : (delta : Int) < 64 := by omega
        simp (disch := first | omega | assumption) only [C.maps_wone_gos, vs, Go.Vc.vk, T.ts, ↓reduceIte, Nat.reduceEqDiff, reduceCtorEq, Nat.reduceLeDiff, Nat.reducePow, Int.reducePow, Int.reduceToNat, Nat.reduceAdd, c1, c2, Int.reduceEq, Int.reduceNeg, decide_true, decide_false, eq_true hn0, eq_true hs0', hd']
        refine eff_call_of ?_
        simp (disch := first | omega | assumption) only [C.maps_wone_gos, vs, Go.Vc.vk, T.ts, ↓reduceIte, Nat.reduceEqDiff, reduceCtorEq, Nat.reduceLeDiff, Nat.reducePow, Int.reducePow, Int.reduceToNat, Nat.reduceAdd]
        refine (wnum_any (delta) 1 (by omega) (by first | omega | (simp only [List.length_append, bigS_len, List.length_singleton, List.length_drop]; omega)) H1).mono ?_
        rintro v3 h3 ⟨HW3, HK3'⟩
        have HK3 := K1.trans HK3'
        have fb3 := HK3'.blk fb0 hfg (by decide)
        have e1_3 : cellAt h3 ⟨fb, 1, none⟩ = some (.slice aL L.length cL) := by rw [cellAt_of fb3]; rfl
        have e2_3 : cellAt h3 ⟨fb, 2, none⟩ = some (.slice aS S.length cS) := by rw [cellAt_of fb3]; rfl
        rw [atU_nat (by omega), bigS_one, Nat.mod_eq_of_lt (by omega)] at HW3
        simp (disch := first | omega | assumption) only [C.maps_wone_gos, vs, Go.Vc.vk, T.ts, ↓reduceIte, Nat.reduceEqDiff, reduceCtorEq, Nat.reduceLeDiff, Nat.reducePow, Int.reducePow, Int.reduceToNat, Nat.reduceAdd]
        refine ⟨?_, HK3⟩
        have hfr : frS p ⟨fat, L, S⟩ delta loc = ([UInt8.ofNat delta], 0) := by unfold frS; simp only [hk, hn, hs0, hd64, if_true]
        rw [hfr]
        rw [thenE_zero]
        exact HW3
      · have hd' : ¬ (delta : Int) < 64 := by omega
        simp (disch := first | omega | assumption) only [C.maps_wone_gos, vs, Go.Vc.vk, T.ts, ↓reduceIte, Nat.reduceEqDiff, reduceCtorEq, Nat.reduceLeDiff, Nat.reducePow, Int.reducePow, Int.reduceToNat, Nat.reduceAdd, c1, c2, Int.reduceEq, Int.reduceNeg, decide_true, decide_false, eq_true hn0, eq_true hs0', hd']
        refine eff_call_of ?_
        simp (disch := first | omega | assumption) only [C.maps_wone_gos, vs, Go.Vc.vk, T.ts, ↓reduceIte, Nat.reduceEqDiff, reduceCtorEq, Nat.reduceLeDiff, Nat.reducePow, Int.reducePow, Int.reduceToNat, Nat.reduceAdd]
        refine (wnum_any (251) 1 (by omega) (by first | omega | (simp only [List.length_append, bigS_len, List.length_singleton, List.length_drop]; omega)) H1).mono ?_
        rintro v3 h3 ⟨HW3, HK3'⟩
        have HK3 := K1.trans HK3'
        have fb3 := HK3'.blk fb0 hfg (by decide)
        have e1_3 : cellAt h3 ⟨fb, 1, none⟩ = some (.slice aL L.length cL) := by rw [cellAt_of fb3]; rfl
        have e2_3 : cellAt h3 ⟨fb, 2, none⟩ = some (.slice aS S.length cS) := by rw [cellAt_of fb3]; rfl
        rw [show atU 251 = 251 from rfl, bigS_one] at HW3
        simp (disch := first | omega | assumption) only [C.maps_wone_gos, vs, Go.Vc.vk, T.ts, ↓reduceIte, Nat.reduceEqDiff, reduceCtorEq, Nat.reduceLeDiff, Nat.reducePow, Int.reducePow, Int.reduceToNat, Nat.reduceAdd, e1_3, e2_3]
        refine eff_call_of ?_
        simp (disch := first | omega | assumption) only [C.maps_wone_gos, vs, Go.Vc.vk, T.ts, ↓reduceIte, Nat.reduceEqDiff, reduceCtorEq, Nat.reduceLeDiff, Nat.reducePow, Int.reducePow, Int.reduceToNat, Nat.reduceAdd]
        refine (wnum_any (delta) 2 (by omega) (by first | omega | (simp only [List.length_append, bigS_len, List.length_singleton, List.length_drop]; omega)) HW3).mono ?_
        rintro v4 h4 ⟨HW4, HK4'⟩
        have HK4 := HK3.trans HK4'
        have fb4 := HK4'.blk fb3 hfg (by decide)
        have e1_4 : cellAt h4 ⟨fb, 1, none⟩ = some (.slice aL L.length cL) := by rw [cellAt_of fb4]; rfl
        have e2_4 : cellAt h4 ⟨fb, 2, none⟩ = some (.slice aS S.length cS) := by rw [cellAt_of fb4]; rfl
        rw [atU_nat (by omega)] at HW4
        simp (disch := first | omega | assumption) only [C.maps_wone_gos, vs, Go.Vc.vk, T.ts, ↓reduceIte, Nat.reduceEqDiff, reduceCtorEq, Nat.reduceLeDiff, Nat.reducePow, Int.reducePow, Int.reduceToNat, Nat.reduceAdd]
        refine ⟨?_, HK4⟩
        have hfr : frS p ⟨fat, L, S⟩ delta loc = (UInt8.ofNat 251 :: bigS delta 2, 0) := by unfold frS; simp only [hk, hn, hs0, hd64, if_true, if_false]
        rw [hfr]
        rw [thenE_zero]
        simpa [List.append_assoc] using HW4
    have hs0' : ¬ (S.length : Int) = 0 := by omega
    by_cases hs1 : S.length = 1
    · have hs1' : (S.length : Int) = 1 := by omega
      by_cases hd64 : delta < 64
      · have hd' : (delta : Int) < 64 := by omega
        simp (disch := first | omega | assumption) only [C.maps_wone_gos, vs, Go.Vc.vk, T.ts, ↓reduceIte, Nat.reduceEqDiff, reduceCtorEq, Nat.reduceLeDiff, Nat.reducePow, Int.reducePow, Int.reduceToNat, Nat.reduceAdd, c1, c2, Int.reduceEq, Int.reduceNeg, decide_true, decide_false, eq_true hn0, eq_false hs0', eq_true hs1', hd']
        refine eff_call_of ?_
        simp (disch := first | omega | assumption) only [C.maps_wone_gos, vs, Go.Vc.vk, T.ts, ↓reduceIte, Nat.reduceEqDiff, reduceCtorEq, Nat.reduceLeDiff, Nat.reducePow, Int.reducePow, Int.reduceToNat, Nat.reduceAdd]
        refine (wnum_any (64 + delta) 1 (by omega) (by first | omega | (simp only [List.length_append, bigS_len, List.length_singleton, List.length_drop]; omega)) H1).mono ?_
        rintro v3 h3 ⟨HW3, HK3'⟩
        have HK3 := K1.trans HK3'
        have fb3 := HK3'.blk fb0 hfg (by decide)
        have e1_3 : cellAt h3 ⟨fb, 1, none⟩ = some (.slice aL L.length cL) := by rw [cellAt_of fb3]; rfl
        have e2_3 : cellAt h3 ⟨fb, 2, none⟩ = some (.slice aS S.length cS) := by rw [cellAt_of fb3]; rfl
        rw [show (64 : Int) + (delta : Int) = ((64 + delta : Nat) : Int) by omega, atU_nat (by omega), bigS_one, Nat.mod_eq_of_lt (by omega)] at HW3
        simp (disch := first | omega | assumption) only [C.maps_wone_gos, vs, Go.Vc.vk, T.ts, ↓reduceIte, Nat.reduceEqDiff, reduceCtorEq, Nat.reduceLeDiff, Nat.reducePow, Int.reducePow, Int.reduceToNat, Nat.reduceAdd, e1_3, e2_3]
        refine eff_call_of ?_
        simp (disch := first | omega | assumption) only [C.maps_wone_gos, vs, Go.Vc.vk, T.ts, ↓reduceIte, Nat.reduceEqDiff, reduceCtorEq, Nat.reduceLeDiff, Nat.reducePow, Int.reducePow, Int.reduceToNat, Nat.reduceAdd]
        have hvl4 := valsS_len p (S)
        refine (wvalues_any (S) _ (hS) (fun v hv => hSf v hv) hp hpc hpf hpl (by first | omega | (simp only [List.length_append, bigS_len, List.length_singleton, List.length_drop]; omega)) HW3).mono ?_
        rintro v4 h4 ⟨HW4, HK4'⟩
        have HK4 := HK3.trans HK4'
        have fb4 := HK4'.blk fb3 hfg (by decide)
        have e1_4 : cellAt h4 ⟨fb, 1, none⟩ = some (.slice aL L.length cL) := by rw [cellAt_of fb4]; rfl
        have e2_4 : cellAt h4 ⟨fb, 2, none⟩ = some (.slice aS S.length cS) := by rw [cellAt_of fb4]; rfl
        simp (disch := first | omega | assumption) only [C.maps_wone_gos, vs, Go.Vc.vk, T.ts, ↓reduceIte, Nat.reduceEqDiff, reduceCtorEq, Nat.reduceLeDiff, Nat.reducePow, Int.reducePow, Int.reduceToNat, Nat.reduceAdd]
        refine ⟨?_, HK4⟩
        have hfr : frS p ⟨fat, L, S⟩ delta loc = (UInt8.ofNat (64 + delta) :: (valsS p S).1, (valsS p S).2) := by unfold frS; simp only [hk, hn, hs0, hs1, hd64, if_true, if_false, Nat.one_ne_zero]
        rw [hfr]
        simpa [List.append_assoc] using HW4
      · have hd' : ¬ (delta : Int) < 64 := by omega
        simp (disch := first | omega | assumption) only [C.maps_wone_gos, vs, Go.Vc.vk, T.ts, ↓reduceIte, Nat.reduceEqDiff, reduceCtorEq, Nat.reduceLeDiff, Nat.reducePow, Int.reducePow, Int.reduceToNat, Nat.reduceAdd, c1, c2, Int.reduceEq, Int.reduceNeg, decide_true, decide_false, eq_true hn0, eq_false hs0', eq_true hs1', hd']
        refine eff_call_of ?_
        simp (disch := first | omega | assumption) only [C.maps_wone_gos, vs, Go.Vc.vk, T.ts, ↓reduceIte, Nat.reduceEqDiff, reduceCtorEq, Nat.reduceLeDiff, Nat.reducePow, Int.reducePow, Int.reduceToNat, Nat.reduceAdd]
        refine (wnum_any (247) 1 (by omega) (by first | omega | (simp only [List.length_append, bigS_len, List.length_singleton, List.length_drop]; omega)) H1).mono ?_
        rintro v3 h3 ⟨HW3, HK3'⟩
        have HK3 := K1.trans HK3'
        have fb3 := HK3'.blk fb0 hfg (by decide)
        have e1_3 : cellAt h3 ⟨fb, 1, none⟩ = some (.slice aL L.length cL) := by rw [cellAt_of fb3]; rfl
        have e2_3 : cellAt h3 ⟨fb, 2, none⟩ = some (.slice aS S.length cS) := by rw [cellAt_of fb3]; rfl
        rw [show atU 247 = 247 from rfl, bigS_one] at HW3
        simp (disch := first | omega | assumption) only [C.maps_wone_gos, vs, Go.Vc.vk, T.ts, ↓reduceIte, Nat.reduceEqDiff, reduceCtorEq, Nat.reduceLeDiff, Nat.reducePow, Int.reducePow, Int.reduceToNat, Nat.reduceAdd, e1_3, e2_3]
        refine eff_call_of ?_
        simp (disch := first | omega | assumption) only [C.maps_wone_gos, vs, Go.Vc.vk, T.ts, ↓reduceIte, Nat.reduceEqDiff, reduceCtorEq, Nat.reduceLeDiff, Nat.reducePow, Int.reducePow, Int.reduceToNat, Nat.reduceAdd]
        refine (wnum_any (delta) 2 (by omega) (by first | omega | (simp only [List.length_append, bigS_len, List.length_singleton, List.length_drop]; omega)) HW3).mono ?_
        rintro v4 h4 ⟨HW4, HK4'⟩
        have HK4 := HK3.trans HK4'
        have fb4 := HK4'.blk fb3 hfg (by decide)
        have e1_4 : cellAt h4 ⟨fb, 1, none⟩ = some (.slice aL L.length cL) := by rw [cellAt_of fb4]; rfl
        have e2_4 : cellAt h4 ⟨fb, 2, none⟩ = some (.slice aS S.length cS) := by rw [cellAt_of fb4]; rfl
        rw [atU_nat (by omega)] at HW4
        simp (disch := first | omega | assumption) only [C.maps_wone_gos, vs, Go.Vc.vk, T.ts, ↓reduceIte, Nat.reduceEqDiff, reduceCtorEq, Nat.reduceLeDiff, Nat.reducePow, Int.reducePow, Int.reduceToNat, Nat.reduceAdd, e1_4, e2_4]
        refine eff_call_of ?_
        simp (disch := first | omega | assumption) only [C.maps_wone_gos, vs, Go.Vc.vk, T.ts, ↓reduceIte, Nat.reduceEqDiff, reduceCtorEq, Nat.reduceLeDiff, Nat.reducePow, Int.reducePow, Int.reduceToNat, Nat.reduceAdd]
        have hvl5 := valsS_len p (S)
        refine (wvalues_any (S) _ (hS) (fun v hv => hSf v hv) hp hpc hpf hpl (by first | omega | (simp only [List.length_append, bigS_len, List.length_singleton, List.length_drop]; omega)) HW4).mono ?_
        rintro v5 h5 ⟨HW5, HK5'⟩
        have HK5 := HK4.trans HK5'
        have fb5 := HK5'.blk fb4 hfg (by decide)
        have e1_5 : cellAt h5 ⟨fb, 1, none⟩ = some (.slice aL L.length cL) := by rw [cellAt_of fb5]; rfl
        have e2_5 : cellAt h5 ⟨fb, 2, none⟩ = some (.slice aS S.length cS) := by rw [cellAt_of fb5]; rfl
        simp (disch := first | omega | assumption) only [C.maps_wone_gos, vs, Go.Vc.vk, T.ts, ↓reduceIte, Nat.reduceEqDiff, reduceCtorEq, Nat.reduceLeDiff, Nat.reducePow, Int.reducePow, Int.reduceToNat, Nat.reduceAdd]
        refine ⟨?_, HK5⟩
        have hfr : frS p ⟨fat, L, S⟩ delta loc = (UInt8.ofNat 247 :: (bigS delta 2 ++ (valsS p S).1), (valsS p S).2) := by unfold frS; simp only [hk, hn, hs0, hs1, hd64, if_true, if_false, Nat.one_ne_zero]
        rw [hfr]
        simpa [List.append_assoc] using HW5
    have hs1' : ¬ (S.length : Int) = 1 := by omega
    have nlt : ¬ (L.length : Int) - loc.length < 0 := by omega
    have ngt : ¬ (0 : Int) < (L.length : Int) - loc.length := by omega
    have hfr : frS p ⟨fat, L, S⟩ delta loc = defS p ⟨fat, L, S⟩ delta := by unfold frS; simp only [hk, hn, hs0, hs1, if_true, if_false]
    rw [hfr]
    simp (disch := first | omega | assumption) only [C.maps_wone_gos, vs, Go.Vc.vk, T.ts, ↓reduceIte, Nat.reduceEqDiff, reduceCtorEq, Nat.reduceLeDiff, Nat.reducePow, Int.reducePow, Int.reduceToNat, Nat.reduceAdd, c1, c2, Int.reduceEq, Int.reduceNeg, decide_true, decide_false, eq_true hn0, eq_false hs0', eq_false hs1', nlt, ngt]
    refine eff_call_of ?_
    simp (disch := first | omega | assumption) only [C.maps_wone_gos, vs, Go.Vc.vk, T.ts, ↓reduceIte, Nat.reduceEqDiff, reduceCtorEq, Nat.reduceLeDiff, Nat.reducePow, Int.reducePow, Int.reduceToNat, Nat.reduceAdd]
    refine (wnum_any (255) 1 (by omega) (by first | omega | (simp only [List.length_append, bigS_len, List.length_singleton, List.length_drop]; omega)) H1).mono ?_
    rintro v3 h3 ⟨HW3, HK3'⟩
    have HK3 := K1.trans HK3'
    have fb3 := HK3'.blk fb0 hfg (by decide)
    have e1_3 : cellAt h3 ⟨fb, 1, none⟩ = some (.slice aL L.length cL) := by rw [cellAt_of fb3]; rfl
    have e2_3 : cellAt h3 ⟨fb, 2, none⟩ = some (.slice aS S.length cS) := by rw [cellAt_of fb3]; rfl
    rw [show atU 255 = 255 from rfl, bigS_one] at HW3
    simp (disch := first | omega | assumption) only [C.maps_wone_gos, vs, Go.Vc.vk, T.ts, ↓reduceIte, Nat.reduceEqDiff, reduceCtorEq, Nat.reduceLeDiff, Nat.reducePow, Int.reducePow, Int.reduceToNat, Nat.reduceAdd, e1_3, e2_3]
    refine eff_call_of ?_
    simp (disch := first | omega | assumption) only [C.maps_wone_gos, vs, Go.Vc.vk, T.ts, ↓reduceIte, Nat.reduceEqDiff, reduceCtorEq, Nat.reduceLeDiff, Nat.reducePow, Int.reducePow, Int.reduceToNat, Nat.reduceAdd]
    refine (wnum_any (delta) 2 (by omega) (by first | omega | (simp only [List.length_append, bigS_len, List.length_singleton, List.length_drop]; omega)) HW3).mono ?_
    rintro v4 h4 ⟨HW4, HK4'⟩
    have HK4 := HK3.trans HK4'
    have fb4 := HK4'.blk fb3 hfg (by decide)
    have e1_4 : cellAt h4 ⟨fb, 1, none⟩ = some (.slice aL L.length cL) := by rw [cellAt_of fb4]; rfl
    have e2_4 : cellAt h4 ⟨fb, 2, none⟩ = some (.slice aS S.length cS) := by rw [cellAt_of fb4]; rfl
    rw [atU_nat (by omega)] at HW4
    simp (disch := first | omega | assumption) only [C.maps_wone_gos, vs, Go.Vc.vk, T.ts, ↓reduceIte, Nat.reduceEqDiff, reduceCtorEq, Nat.reduceLeDiff, Nat.reducePow, Int.reducePow, Int.reduceToNat, Nat.reduceAdd, e1_4, e2_4]
    refine eff_call_of ?_
    simp (disch := first | omega | assumption) only [C.maps_wone_gos, vs, Go.Vc.vk, T.ts, ↓reduceIte, Nat.reduceEqDiff, reduceCtorEq, Nat.reduceLeDiff, Nat.reducePow, Int.reducePow, Int.reduceToNat, Nat.reduceAdd]
    refine (wnum_any (L.length) 2 (by omega) (by first | omega | (simp only [List.length_append, bigS_len, List.length_singleton, List.length_drop]; omega)) HW4).mono ?_
    rintro v5 h5 ⟨HW5, HK5'⟩
    have HK5 := HK4.trans HK5'
    have fb5 := HK5'.blk fb4 hfg (by decide)
    have e1_5 : cellAt h5 ⟨fb, 1, none⟩ = some (.slice aL L.length cL) := by rw [cellAt_of fb5]; rfl
    have e2_5 : cellAt h5 ⟨fb, 2, none⟩ = some (.slice aS S.length cS) := by rw [cellAt_of fb5]; rfl
    rw [atU_nat (by omega)] at HW5
    simp (disch := first | omega | assumption) only [C.maps_wone_gos, vs, Go.Vc.vk, T.ts, ↓reduceIte, Nat.reduceEqDiff, reduceCtorEq, Nat.reduceLeDiff, Nat.reducePow, Int.reducePow, Int.reduceToNat, Nat.reduceAdd, e1_5, e2_5]
    refine eff_call_of ?_
    simp (disch := first | omega | assumption) only [C.maps_wone_gos, vs, Go.Vc.vk, T.ts, ↓reduceIte, Nat.reduceEqDiff, reduceCtorEq, Nat.reduceLeDiff, Nat.reducePow, Int.reducePow, Int.reduceToNat, Nat.reduceAdd]
    have hvl6 := valsS_len p (L)
    refine (wvalues_any (L) _ (hL) (fun v hv => hLf v hv) hp hpc hpf hpl (by first | omega | (simp only [List.length_append, bigS_len, List.length_singleton, List.length_drop]; omega)) HW5).mono ?_
    rintro v6 h6 ⟨HW6, HK6'⟩
    have HK6 := HK5.trans HK6'
    have fb6 := HK6'.blk fb5 hfg (by decide)
    have e1_6 : cellAt h6 ⟨fb, 1, none⟩ = some (.slice aL L.length cL) := by rw [cellAt_of fb6]; rfl
    have e2_6 : cellAt h6 ⟨fb, 2, none⟩ = some (.slice aS S.length cS) := by rw [cellAt_of fb6]; rfl
    simp (disch := first | omega | assumption) only [C.maps_wone_gos, vs, Go.Vc.vk, T.ts, ↓reduceIte, Nat.reduceEqDiff, reduceCtorEq, Nat.reduceLeDiff, Nat.reducePow, Int.reducePow, Int.reduceToNat, Nat.reduceAdd, e1_6, e2_6]
    refine eff_call_of ?_
    simp (disch := first | omega | assumption) only [C.maps_wone_gos, vs, Go.Vc.vk, T.ts, ↓reduceIte, Nat.reduceEqDiff, reduceCtorEq, Nat.reduceLeDiff, Nat.reducePow, Int.reducePow, Int.reduceToNat, Nat.reduceAdd]
    refine (wnum_any (S.length) 2 (by omega) (by first | omega | (simp only [List.length_append, bigS_len, List.length_singleton, List.length_drop]; omega)) HW6).mono ?_
    rintro v7 h7 ⟨HW7, HK7'⟩
    have HK7 := HK6.trans HK7'
    have fb7 := HK7'.blk fb6 hfg (by decide)
    have e1_7 : cellAt h7 ⟨fb, 1, none⟩ = some (.slice aL L.length cL) := by rw [cellAt_of fb7]; rfl
    have e2_7 : cellAt h7 ⟨fb, 2, none⟩ = some (.slice aS S.length cS) := by rw [cellAt_of fb7]; rfl
    rw [atU_nat (by omega)] at HW7
    simp (disch := first | omega | assumption) only [C.maps_wone_gos, vs, Go.Vc.vk, T.ts, ↓reduceIte, Nat.reduceEqDiff, reduceCtorEq, Nat.reduceLeDiff, Nat.reducePow, Int.reducePow, Int.reduceToNat, Nat.reduceAdd, e1_7, e2_7]
    refine eff_call_of ?_
    simp (disch := first | omega | assumption) only [C.maps_wone_gos, vs, Go.Vc.vk, T.ts, ↓reduceIte, Nat.reduceEqDiff, reduceCtorEq, Nat.reduceLeDiff, Nat.reducePow, Int.reducePow, Int.reduceToNat, Nat.reduceAdd]
    have hvl8 := valsS_len p (S)
    refine (wvalues_any (S) _ (hS) (fun v hv => hSf v hv) hp hpc hpf hpl (by first | omega | (simp only [List.length_append, bigS_len, List.length_singleton, List.length_drop]; omega)) HW7).mono ?_
    rintro v8 h8 ⟨HW8, HK8'⟩
    have HK8 := HK7.trans HK8'
    have fb8 := HK8'.blk fb7 hfg (by decide)
    have e1_8 : cellAt h8 ⟨fb, 1, none⟩ = some (.slice aL L.length cL) := by rw [cellAt_of fb8]; rfl
    have e2_8 : cellAt h8 ⟨fb, 2, none⟩ = some (.slice aS S.length cS) := by rw [cellAt_of fb8]; rfl
    simp (disch := first | omega | assumption) only [C.maps_wone_gos, vs, Go.Vc.vk, T.ts, ↓reduceIte, Nat.reduceEqDiff, reduceCtorEq, Nat.reduceLeDiff, Nat.reducePow, Int.reducePow, Int.reduceToNat, Nat.reduceAdd]
    refine ⟨?_, HK8⟩
    unfold defS
    rw [← thenE_assoc]
    simpa [List.append_assoc] using HW8
  have hn0 : ¬ (L.length : Int) - loc.length = 0 := by omega
  by_cases hs0 : S.length = 0
  case neg =>
    have hs0' : ¬ (S.length : Int) = 0 := by omega
    have hw : frS p ⟨fat, L, S⟩ delta loc = defS p ⟨fat, L, S⟩ delta := by unfold frS; simp only [hk, hn, hs0, if_true, if_false]
    by_cases hlt : L.length < loc.length
    · have n1 : (L.length : Int) - loc.length < 0 := by omega
      have n2 : ¬ (0 : Int) < (L.length : Int) - loc.length := by omega
      by_cases h3 : (-3 : Int) ≤ (L.length : Int) - loc.length
      · have := h3
        have hfr : frS p ⟨fat, L, S⟩ delta loc = defS p ⟨fat, L, S⟩ delta := by exact hw
        rw [hfr]
        simp (disch := first | omega | assumption) only [C.maps_wone_gos, vs, Go.Vc.vk, T.ts, ↓reduceIte, Nat.reduceEqDiff, reduceCtorEq, Nat.reduceLeDiff, Nat.reducePow, Int.reducePow, Int.reduceToNat, Nat.reduceAdd, c1, c2, Int.reduceEq, Int.reduceNeg, decide_true, decide_false, eq_false hn0, eq_false hs0', n1, n2, h3]
        refine eff_call_of ?_
        simp (disch := first | omega | assumption) only [C.maps_wone_gos, vs, Go.Vc.vk, T.ts, ↓reduceIte, Nat.reduceEqDiff, reduceCtorEq, Nat.reduceLeDiff, Nat.reducePow, Int.reducePow, Int.reduceToNat, Nat.reduceAdd]
        refine (wnum_any (255) 1 (by omega) (by first | omega | (simp only [List.length_append, bigS_len, List.length_singleton, List.length_drop]; omega)) H1).mono ?_
        rintro v3 h3 ⟨HW3, HK3'⟩
        have HK3 := K1.trans HK3'
        have fb3 := HK3'.blk fb0 hfg (by decide)
        have e1_3 : cellAt h3 ⟨fb, 1, none⟩ = some (.slice aL L.length cL) := by rw [cellAt_of fb3]; rfl
        have e2_3 : cellAt h3 ⟨fb, 2, none⟩ = some (.slice aS S.length cS) := by rw [cellAt_of fb3]; rfl
        rw [show atU 255 = 255 from rfl, bigS_one] at HW3
        simp (disch := first | omega | assumption) only [C.maps_wone_gos, vs, Go.Vc.vk, T.ts, ↓reduceIte, Nat.reduceEqDiff, reduceCtorEq, Nat.reduceLeDiff, Nat.reducePow, Int.reducePow, Int.reduceToNat, Nat.reduceAdd, e1_3, e2_3]
        refine eff_call_of ?_
        simp (disch := first | omega | assumption) only [C.maps_wone_gos, vs, Go.Vc.vk, T.ts, ↓reduceIte, Nat.reduceEqDiff, reduceCtorEq, Nat.reduceLeDiff, Nat.reducePow, Int.reducePow, Int.reduceToNat, Nat.reduceAdd]
        refine (wnum_any (delta) 2 (by omega) (by first | omega | (simp only [List.length_append, bigS_len, List.length_singleton, List.length_drop]; omega)) HW3).mono ?_
        rintro v4 h4 ⟨HW4, HK4'⟩
        have HK4 := HK3.trans HK4'
        have fb4 := HK4'.blk fb3 hfg (by decide)
        have e1_4 : cellAt h4 ⟨fb, 1, none⟩ = some (.slice aL L.length cL) := by rw [cellAt_of fb4]; rfl
        have e2_4 : cellAt h4 ⟨fb, 2, none⟩ = some (.slice aS S.length cS) := by rw [cellAt_of fb4]; rfl
        rw [atU_nat (by omega)] at HW4
        simp (disch := first | omega | assumption) only [C.maps_wone_gos, vs, Go.Vc.vk, T.ts, ↓reduceIte, Nat.reduceEqDiff, reduceCtorEq, Nat.reduceLeDiff, Nat.reducePow, Int.reducePow, Int.reduceToNat, Nat.reduceAdd, e1_4, e2_4]
        refine eff_call_of ?_
        simp (disch := first | omega | assumption) only [C.maps_wone_gos, vs, Go.Vc.vk, T.ts, ↓reduceIte, Nat.reduceEqDiff, reduceCtorEq, Nat.reduceLeDiff, Nat.reducePow, Int.reducePow, Int.reduceToNat, Nat.reduceAdd]
        refine (wnum_any (L.length) 2 (by omega) (by first | omega | (simp only [List.length_append, bigS_len, List.length_singleton, List.length_drop]; omega)) HW4).mono ?_
        rintro v5 h5 ⟨HW5, HK5'⟩
        have HK5 := HK4.trans HK5'
        have fb5 := HK5'.blk fb4 hfg (by decide)
        have e1_5 : cellAt h5 ⟨fb, 1, none⟩ = some (.slice aL L.length cL) := by rw [cellAt_of fb5]; rfl
        have e2_5 : cellAt h5 ⟨fb, 2, none⟩ = some (.slice aS S.length cS) := by rw [cellAt_of fb5]; rfl
        rw [atU_nat (by omega)] at HW5
        simp (disch := first | omega | assumption) only [C.maps_wone_gos, vs, Go.Vc.vk, T.ts, ↓reduceIte, Nat.reduceEqDiff, reduceCtorEq, Nat.reduceLeDiff, Nat.reducePow, Int.reducePow, Int.reduceToNat, Nat.reduceAdd, e1_5, e2_5]
        refine eff_call_of ?_
        simp (disch := first | omega | assumption) only [C.maps_wone_gos, vs, Go.Vc.vk, T.ts, ↓reduceIte, Nat.reduceEqDiff, reduceCtorEq, Nat.reduceLeDiff, Nat.reducePow, Int.reducePow, Int.reduceToNat, Nat.reduceAdd]
        have hvl6 := valsS_len p (L)
        refine (wvalues_any (L) _ (hL) (fun v hv => hLf v hv) hp hpc hpf hpl (by first | omega | (simp only [List.length_append, bigS_len, List.length_singleton, List.length_drop]; omega)) HW5).mono ?_
        rintro v6 h6 ⟨HW6, HK6'⟩
        have HK6 := HK5.trans HK6'
        have fb6 := HK6'.blk fb5 hfg (by decide)
        have e1_6 : cellAt h6 ⟨fb, 1, none⟩ = some (.slice aL L.length cL) := by rw [cellAt_of fb6]; rfl
        have e2_6 : cellAt h6 ⟨fb, 2, none⟩ = some (.slice aS S.length cS) := by rw [cellAt_of fb6]; rfl
        simp (disch := first | omega | assumption) only [C.maps_wone_gos, vs, Go.Vc.vk, T.ts, ↓reduceIte, Nat.reduceEqDiff, reduceCtorEq, Nat.reduceLeDiff, Nat.reducePow, Int.reducePow, Int.reduceToNat, Nat.reduceAdd, e1_6, e2_6]
        refine eff_call_of ?_
        simp (disch := first | omega | assumption) only [C.maps_wone_gos, vs, Go.Vc.vk, T.ts, ↓reduceIte, Nat.reduceEqDiff, reduceCtorEq, Nat.reduceLeDiff, Nat.reducePow, Int.reducePow, Int.reduceToNat, Nat.reduceAdd]
        refine (wnum_any (S.length) 2 (by omega) (by first | omega | (simp only [List.length_append, bigS_len, List.length_singleton, List.length_drop]; omega)) HW6).mono ?_
        rintro v7 h7 ⟨HW7, HK7'⟩
        have HK7 := HK6.trans HK7'
        have fb7 := HK7'.blk fb6 hfg (by decide)
        have e1_7 : cellAt h7 ⟨fb, 1, none⟩ = some (.slice aL L.length cL) := by rw [cellAt_of fb7]; rfl
        have e2_7 : cellAt h7 ⟨fb, 2, none⟩ = some (.slice aS S.length cS) := by rw [cellAt_of fb7]; rfl
        rw [atU_nat (by omega)] at HW7
        simp (disch := first | omega | assumption) only [C.maps_wone_gos, vs, Go.Vc.vk, T.ts, ↓reduceIte, Nat.reduceEqDiff, reduceCtorEq, Nat.reduceLeDiff, Nat.reducePow, Int.reducePow, Int.reduceToNat, Nat.reduceAdd, e1_7, e2_7]
        refine eff_call_of ?_
        simp (disch := first | omega | assumption) only [C.maps_wone_gos, vs, Go.Vc.vk, T.ts, ↓reduceIte, Nat.reduceEqDiff, reduceCtorEq, Nat.reduceLeDiff, Nat.reducePow, Int.reducePow, Int.reduceToNat, Nat.reduceAdd]
        have hvl8 := valsS_len p (S)
        refine (wvalues_any (S) _ (hS) (fun v hv => hSf v hv) hp hpc hpf hpl (by first | omega | (simp only [List.length_append, bigS_len, List.length_singleton, List.length_drop]; omega)) HW7).mono ?_
        rintro v8 h8 ⟨HW8, HK8'⟩
        have HK8 := HK7.trans HK8'
        have fb8 := HK8'.blk fb7 hfg (by decide)
        have e1_8 : cellAt h8 ⟨fb, 1, none⟩ = some (.slice aL L.length cL) := by rw [cellAt_of fb8]; rfl
        have e2_8 : cellAt h8 ⟨fb, 2, none⟩ = some (.slice aS S.length cS) := by rw [cellAt_of fb8]; rfl
        simp (disch := first | omega | assumption) only [C.maps_wone_gos, vs, Go.Vc.vk, T.ts, ↓reduceIte, Nat.reduceEqDiff, reduceCtorEq, Nat.reduceLeDiff, Nat.reducePow, Int.reducePow, Int.reduceToNat, Nat.reduceAdd]
        refine ⟨?_, HK8⟩
        unfold defS
        rw [← thenE_assoc]
        simpa [List.append_assoc] using HW8
      · have := h3
        have hfr : frS p ⟨fat, L, S⟩ delta loc = defS p ⟨fat, L, S⟩ delta := by exact hw
        rw [hfr]
        simp (disch := first | omega | assumption) only [C.maps_wone_gos, vs, Go.Vc.vk, T.ts, ↓reduceIte, Nat.reduceEqDiff, reduceCtorEq, Nat.reduceLeDiff, Nat.reducePow, Int.reducePow, Int.reduceToNat, Nat.reduceAdd, c1, c2, Int.reduceEq, Int.reduceNeg, decide_true, decide_false, eq_false hn0, eq_false hs0', n1, n2, h3]
        refine eff_call_of ?_
        simp (disch := first | omega | assumption) only [C.maps_wone_gos, vs, Go.Vc.vk, T.ts, ↓reduceIte, Nat.reduceEqDiff, reduceCtorEq, Nat.reduceLeDiff, Nat.reducePow, Int.reducePow, Int.reduceToNat, Nat.reduceAdd]
        refine (wnum_any (255) 1 (by omega) (by first | omega | (simp only [List.length_append, bigS_len, List.length_singleton, List.length_drop]; omega)) H1).mono ?_
        rintro v3 h3 ⟨HW3, HK3'⟩
        have HK3 := K1.trans HK3'
        have fb3 := HK3'.blk fb0 hfg (by decide)
        have e1_3 : cellAt h3 ⟨fb, 1, none⟩ = some (.slice aL L.length cL) := by rw [cellAt_of fb3]; rfl
        have e2_3 : cellAt h3 ⟨fb, 2, none⟩ = some (.slice aS S.length cS) := by rw [cellAt_of fb3]; rfl
        rw [show atU 255 = 255 from rfl, bigS_one] at HW3
        simp (disch := first | omega | assumption) only [C.maps_wone_gos, vs, Go.Vc.vk, T.ts, ↓reduceIte, Nat.reduceEqDiff, reduceCtorEq, Nat.reduceLeDiff, Nat.reducePow, Int.reducePow, Int.reduceToNat, Nat.reduceAdd, e1_3, e2_3]
        refine eff_call_of ?_
        simp (disch := first | omega | assumption) only [C.maps_wone_gos, vs, Go.Vc.vk, T.ts, ↓reduceIte, Nat.reduceEqDiff, reduceCtorEq, Nat.reduceLeDiff, Nat.reducePow, Int.reducePow, Int.reduceToNat, Nat.reduceAdd]
        refine (wnum_any (delta) 2 (by omega) (by first | omega | (simp only [List.length_append, bigS_len, List.length_singleton, List.length_drop]; omega)) HW3).mono ?_
        rintro v4 h4 ⟨HW4, HK4'⟩
        have HK4 := HK3.trans HK4'
        have fb4 := HK4'.blk fb3 hfg (by decide)
        have e1_4 : cellAt h4 ⟨fb, 1, none⟩ = some (.slice aL L.length cL) := by rw [cellAt_of fb4]; rfl
        have e2_4 : cellAt h4 ⟨fb, 2, none⟩ = some (.slice aS S.length cS) := by rw [cellAt_of fb4]; rfl
        rw [atU_nat (by omega)] at HW4
        simp (disch := first | omega | assumption) only [C.maps_wone_gos, vs, Go.Vc.vk, T.ts, ↓reduceIte, Nat.reduceEqDiff, reduceCtorEq, Nat.reduceLeDiff, Nat.reducePow, Int.reducePow, Int.reduceToNat, Nat.reduceAdd, e1_4, e2_4]
        refine eff_call_of ?_
        simp (disch := first | omega | assumption) only [C.maps_wone_gos, vs, Go.Vc.vk, T.ts, ↓reduceIte, Nat.reduceEqDiff, reduceCtorEq, Nat.reduceLeDiff, Nat.reducePow, Int.reducePow, Int.reduceToNat, Nat.reduceAdd]
        refine (wnum_any (L.length) 2 (by omega) (by first | omega | (simp only [List.length_append, bigS_len, List.length_singleton, List.length_drop]; omega)) HW4).mono ?_
        rintro v5 h5 ⟨HW5, HK5'⟩
        have HK5 := HK4.trans HK5'
        have fb5 := HK5'.blk fb4 hfg (by decide)
        have e1_5 : cellAt h5 ⟨fb, 1, none⟩ = some (.slice aL L.length cL) := by rw [cellAt_of fb5]; rfl
        have e2_5 : cellAt h5 ⟨fb, 2, none⟩ = some (.slice aS S.length cS) := by rw [cellAt_of fb5]; rfl
        rw [atU_nat (by omega)] at HW5
        simp (disch := first | omega | assumption) only [C.maps_wone_gos, vs, Go.Vc.vk, T.ts, ↓reduceIte, Nat.reduceEqDiff, reduceCtorEq, Nat.reduceLeDiff, Nat.reducePow, Int.reducePow, Int.reduceToNat, Nat.reduceAdd, e1_5, e2_5]
        refine eff_call_of ?_
        simp (disch := first | omega | assumption) only [C.maps_wone_gos, vs, Go.Vc.vk, T.ts, ↓reduceIte, Nat.reduceEqDiff, reduceCtorEq, Nat.reduceLeDiff, Nat.reducePow, Int.reducePow, Int.reduceToNat, Nat.reduceAdd]
        have hvl6 := valsS_len p (L)
        refine (wvalues_any (L) _ (hL) (fun v hv => hLf v hv) hp hpc hpf hpl (by first | omega | (simp only [List.length_append, bigS_len, List.length_singleton, List.length_drop]; omega)) HW5).mono ?_
        rintro v6 h6 ⟨HW6, HK6'⟩
        have HK6 := HK5.trans HK6'
        have fb6 := HK6'.blk fb5 hfg (by decide)
        have e1_6 : cellAt h6 ⟨fb, 1, none⟩ = some (.slice aL L.length cL) := by rw [cellAt_of fb6]; rfl
        have e2_6 : cellAt h6 ⟨fb, 2, none⟩ = some (.slice aS S.length cS) := by rw [cellAt_of fb6]; rfl
        simp (disch := first | omega | assumption) only [C.maps_wone_gos, vs, Go.Vc.vk, T.ts, ↓reduceIte, Nat.reduceEqDiff, reduceCtorEq, Nat.reduceLeDiff, Nat.reducePow, Int.reducePow, Int.reduceToNat, Nat.reduceAdd, e1_6, e2_6]
        refine eff_call_of ?_
        simp (disch := first | omega | assumption) only [C.maps_wone_gos, vs, Go.Vc.vk, T.ts, ↓reduceIte, Nat.reduceEqDiff, reduceCtorEq, Nat.reduceLeDiff, Nat.reducePow, Int.reducePow, Int.reduceToNat, Nat.reduceAdd]
        refine (wnum_any (S.length) 2 (by omega) (by first | omega | (simp only [List.length_append, bigS_len, List.length_singleton, List.length_drop]; omega)) HW6).mono ?_
        rintro v7 h7 ⟨HW7, HK7'⟩
        have HK7 := HK6.trans HK7'
        have fb7 := HK7'.blk fb6 hfg (by decide)
        have e1_7 : cellAt h7 ⟨fb, 1, none⟩ = some (.slice aL L.length cL) := by rw [cellAt_of fb7]; rfl
        have e2_7 : cellAt h7 ⟨fb, 2, none⟩ = some (.slice aS S.length cS) := by rw [cellAt_of fb7]; rfl
        rw [atU_nat (by omega)] at HW7
        simp (disch := first | omega | assumption) only [C.maps_wone_gos, vs, Go.Vc.vk, T.ts, ↓reduceIte, Nat.reduceEqDiff, reduceCtorEq, Nat.reduceLeDiff, Nat.reducePow, Int.reducePow, Int.reduceToNat, Nat.reduceAdd, e1_7, e2_7]
        refine eff_call_of ?_
        simp (disch := first | omega | assumption) only [C.maps_wone_gos, vs, Go.Vc.vk, T.ts, ↓reduceIte, Nat.reduceEqDiff, reduceCtorEq, Nat.reduceLeDiff, Nat.reducePow, Int.reducePow, Int.reduceToNat, Nat.reduceAdd]
        have hvl8 := valsS_len p (S)
        refine (wvalues_any (S) _ (hS) (fun v hv => hSf v hv) hp hpc hpf hpl (by first | omega | (simp only [List.length_append, bigS_len, List.length_singleton, List.length_drop]; omega)) HW7).mono ?_
        rintro v8 h8 ⟨HW8, HK8'⟩
        have HK8 := HK7.trans HK8'
        have fb8 := HK8'.blk fb7 hfg (by decide)
        have e1_8 : cellAt h8 ⟨fb, 1, none⟩ = some (.slice aL L.length cL) := by rw [cellAt_of fb8]; rfl
        have e2_8 : cellAt h8 ⟨fb, 2, none⟩ = some (.slice aS S.length cS) := by rw [cellAt_of fb8]; rfl
        simp (disch := first | omega | assumption) only [C.maps_wone_gos, vs, Go.Vc.vk, T.ts, ↓reduceIte, Nat.reduceEqDiff, reduceCtorEq, Nat.reduceLeDiff, Nat.reducePow, Int.reducePow, Int.reduceToNat, Nat.reduceAdd]
        refine ⟨?_, HK8⟩
        unfold defS
        rw [← thenE_assoc]
        simpa [List.append_assoc] using HW8
    · have n1 : ¬ (L.length : Int) - loc.length < 0 := by omega
      have n2 : (0 : Int) < (L.length : Int) - loc.length := by omega
      by_cases h3 : (L.length : Int) - loc.length ≤ 3
      · have := h3
        have hfr : frS p ⟨fat, L, S⟩ delta loc = defS p ⟨fat, L, S⟩ delta := by exact hw
        rw [hfr]
        simp (disch := first | omega | assumption) only [C.maps_wone_gos, vs, Go.Vc.vk, T.ts, ↓reduceIte, Nat.reduceEqDiff, reduceCtorEq, Nat.reduceLeDiff, Nat.reducePow, Int.reducePow, Int.reduceToNat, Nat.reduceAdd, c1, c2, Int.reduceEq, Int.reduceNeg, decide_true, decide_false, eq_false hn0, eq_false hs0', n1, n2, h3]
        refine eff_call_of ?_
        simp (disch := first | omega | assumption) only [C.maps_wone_gos, vs, Go.Vc.vk, T.ts, ↓reduceIte, Nat.reduceEqDiff, reduceCtorEq, Nat.reduceLeDiff, Nat.reducePow, Int.reducePow, Int.reduceToNat, Nat.reduceAdd]
        refine (wnum_any (255) 1 (by omega) (by first | omega | (simp only [List.length_append, bigS_len, List.length_singleton, List.length_drop]; omega)) H1).mono ?_
        rintro v3 h3 ⟨HW3, HK3'⟩
        have HK3 := K1.trans HK3'
        have fb3 := HK3'.blk fb0 hfg (by decide)
        have e1_3 : cellAt h3 ⟨fb, 1, none⟩ = some (.slice aL L.length cL) := by rw [cellAt_of fb3]; rfl
        have e2_3 : cellAt h3 ⟨fb, 2, none⟩ = some (.slice aS S.length cS) := by rw [cellAt_of fb3]; rfl
        rw [show atU 255 = 255 from rfl, bigS_one] at HW3
        simp (disch := first | omega | assumption) only [C.maps_wone_gos, vs, Go.Vc.vk, T.ts, ↓reduceIte, Nat.reduceEqDiff, reduceCtorEq, Nat.reduceLeDiff, Nat.reducePow, Int.reducePow, Int.reduceToNat, Nat.reduceAdd, e1_3, e2_3]
        refine eff_call_of ?_
        simp (disch := first | omega | assumption) only [C.maps_wone_gos, vs, Go.Vc.vk, T.ts, ↓reduceIte, Nat.reduceEqDiff, reduceCtorEq, Nat.reduceLeDiff, Nat.reducePow, Int.reducePow, Int.reduceToNat, Nat.reduceAdd]
        refine (wnum_any (delta) 2 (by omega) (by first | omega | (simp only [List.length_append, bigS_len, List.length_singleton, List.length_drop]; omega)) HW3).mono ?_
        rintro v4 h4 ⟨HW4, HK4'⟩
        have HK4 := HK3.trans HK4'
        have fb4 := HK4'.blk fb3 hfg (by decide)
        have e1_4 : cellAt h4 ⟨fb, 1, none⟩ = some (.slice aL L.length cL) := by rw [cellAt_of fb4]; rfl
        have e2_4 : cellAt h4 ⟨fb, 2, none⟩ = some (.slice aS S.length cS) := by rw [cellAt_of fb4]; rfl
        rw [atU_nat (by omega)] at HW4
        simp (disch := first | omega | assumption) only [C.maps_wone_gos, vs, Go.Vc.vk, T.ts, ↓reduceIte, Nat.reduceEqDiff, reduceCtorEq, Nat.reduceLeDiff, Nat.reducePow, Int.reducePow, Int.reduceToNat, Nat.reduceAdd, e1_4, e2_4]
        refine eff_call_of ?_
        simp (disch := first | omega | assumption) only [C.maps_wone_gos, vs, Go.Vc.vk, T.ts, ↓reduceIte, Nat.reduceEqDiff, reduceCtorEq, Nat.reduceLeDiff, Nat.reducePow, Int.reducePow, Int.reduceToNat, Nat.reduceAdd]
        refine (wnum_any (L.length) 2 (by omega) (by first | omega | (simp only [List.length_append, bigS_len, List.length_singleton, List.length_drop]; omega)) HW4).mono ?_
        rintro v5 h5 ⟨HW5, HK5'⟩
        have HK5 := HK4.trans HK5'
        have fb5 := HK5'.blk fb4 hfg (by decide)
        have e1_5 : cellAt h5 ⟨fb, 1, none⟩ = some (.slice aL L.length cL) := by rw [cellAt_of fb5]; rfl
        have e2_5 : cellAt h5 ⟨fb, 2, none⟩ = some (.slice aS S.length cS) := by rw [cellAt_of fb5]; rfl
        rw [atU_nat (by omega)] at HW5
        simp (disch := first | omega | assumption) only [C.maps_wone_gos, vs, Go.Vc.vk, T.ts, ↓reduceIte, Nat.reduceEqDiff, reduceCtorEq, Nat.reduceLeDiff, Nat.reducePow, Int.reducePow, Int.reduceToNat, Nat.reduceAdd, e1_5, e2_5]
        refine eff_call_of ?_
        simp (disch := first | omega | assumption) only [C.maps_wone_gos, vs, Go.Vc.vk, T.ts, ↓reduceIte, Nat.reduceEqDiff, reduceCtorEq, Nat.reduceLeDiff, Nat.reducePow, Int.reducePow, Int.reduceToNat, Nat.reduceAdd]
        have hvl6 := valsS_len p (L)
        refine (wvalues_any (L) _ (hL) (fun v hv => hLf v hv) hp hpc hpf hpl (by first | omega | (simp only [List.length_append, bigS_len, List.length_singleton, List.length_drop]; omega)) HW5).mono ?_
        rintro v6 h6 ⟨HW6, HK6'⟩
        have HK6 := HK5.trans HK6'
        have fb6 := HK6'.blk fb5 hfg (by decide)
        have e1_6 : cellAt h6 ⟨fb, 1, none⟩ = some (.slice aL L.length cL) := by rw [cellAt_of fb6]; rfl
        have e2_6 : cellAt h6 ⟨fb, 2, none⟩ = some (.slice aS S.length cS) := by rw [cellAt_of fb6]; rfl
        simp (disch := first | omega | assumption) only [C.maps_wone_gos, vs, Go.Vc.vk, T.ts, ↓reduceIte, Nat.reduceEqDiff, reduceCtorEq, Nat.reduceLeDiff, Nat.reducePow, Int.reducePow, Int.reduceToNat, Nat.reduceAdd, e1_6, e2_6]
        refine eff_call_of ?_
        simp (disch := first | omega | assumption) only [C.maps_wone_gos, vs, Go.Vc.vk, T.ts, ↓reduceIte, Nat.reduceEqDiff, reduceCtorEq, Nat.reduceLeDiff, Nat.reducePow, Int.reducePow, Int.reduceToNat, Nat.reduceAdd]
        refine (wnum_any (S.length) 2 (by omega) (by first | omega | (simp only [List.length_append, bigS_len, List.length_singleton, List.length_drop]; omega)) HW6).mono ?_
        rintro v7 h7 ⟨HW7, HK7'⟩
        have HK7 := HK6.trans HK7'
        have fb7 := HK7'.blk fb6 hfg (by decide)
        have e1_7 : cellAt h7 ⟨fb, 1, none⟩ = some (.slice aL L.length cL) := by rw [cellAt_of fb7]; rfl
        have e2_7 : cellAt h7 ⟨fb, 2, none⟩ = some (.slice aS S.length cS) := by rw [cellAt_of fb7]; rfl
        rw [atU_nat (by omega)] at HW7
        simp (disch := first | omega | assumption) only [C.maps_wone_gos, vs, Go.Vc.vk, T.ts, ↓reduceIte, Nat.reduceEqDiff, reduceCtorEq, Nat.reduceLeDiff, Nat.reducePow, Int.reducePow, Int.reduceToNat, Nat.reduceAdd, e1_7, e2_7]
        refine eff_call_of ?_
        simp (disch := first | omega | assumption) only [C.maps_wone_gos, vs, Go.Vc.vk, T.ts, ↓reduceIte, Nat.reduceEqDiff, reduceCtorEq, Nat.reduceLeDiff, Nat.reducePow, Int.reducePow, Int.reduceToNat, Nat.reduceAdd]
        have hvl8 := valsS_len p (S)
        refine (wvalues_any (S) _ (hS) (fun v hv => hSf v hv) hp hpc hpf hpl (by first | omega | (simp only [List.length_append, bigS_len, List.length_singleton, List.length_drop]; omega)) HW7).mono ?_
        rintro v8 h8 ⟨HW8, HK8'⟩
        have HK8 := HK7.trans HK8'
        have fb8 := HK8'.blk fb7 hfg (by decide)
        have e1_8 : cellAt h8 ⟨fb, 1, none⟩ = some (.slice aL L.length cL) := by rw [cellAt_of fb8]; rfl
        have e2_8 : cellAt h8 ⟨fb, 2, none⟩ = some (.slice aS S.length cS) := by rw [cellAt_of fb8]; rfl
        simp (disch := first | omega | assumption) only [C.maps_wone_gos, vs, Go.Vc.vk, T.ts, ↓reduceIte, Nat.reduceEqDiff, reduceCtorEq, Nat.reduceLeDiff, Nat.reducePow, Int.reducePow, Int.reduceToNat, Nat.reduceAdd]
        refine ⟨?_, HK8⟩
        unfold defS
        rw [← thenE_assoc]
        simpa [List.append_assoc] using HW8
      · have := h3
        have hfr : frS p ⟨fat, L, S⟩ delta loc = defS p ⟨fat, L, S⟩ delta := by exact hw
        rw [hfr]
        simp (disch := first | omega | assumption) only [C.maps_wone_gos, vs, Go.Vc.vk, T.ts, ↓reduceIte, Nat.reduceEqDiff, reduceCtorEq, Nat.reduceLeDiff, Nat.reducePow, Int.reducePow, Int.reduceToNat, Nat.reduceAdd, c1, c2, Int.reduceEq, Int.reduceNeg, decide_true, decide_false, eq_false hn0, eq_false hs0', n1, n2, h3]
        refine eff_call_of ?_
        simp (disch := first | omega | assumption) only [C.maps_wone_gos, vs, Go.Vc.vk, T.ts, ↓reduceIte, Nat.reduceEqDiff, reduceCtorEq, Nat.reduceLeDiff, Nat.reducePow, Int.reducePow, Int.reduceToNat, Nat.reduceAdd]
        refine (wnum_any (255) 1 (by omega) (by first | omega | (simp only [List.length_append, bigS_len, List.length_singleton, List.length_drop]; omega)) H1).mono ?_
        rintro v3 h3 ⟨HW3, HK3'⟩
        have HK3 := K1.trans HK3'
        have fb3 := HK3'.blk fb0 hfg (by decide)
        have e1_3 : cellAt h3 ⟨fb, 1, none⟩ = some (.slice aL L.length cL) := by rw [cellAt_of fb3]; rfl
        have e2_3 : cellAt h3 ⟨fb, 2, none⟩ = some (.slice aS S.length cS) := by rw [cellAt_of fb3]; rfl
        rw [show atU 255 = 255 from rfl, bigS_one] at HW3
        simp (disch := first | omega | assumption) only [C.maps_wone_gos, vs, Go.Vc.vk, T.ts, ↓reduceIte, Nat.reduceEqDiff, reduceCtorEq, Nat.reduceLeDiff, Nat.reducePow, Int.reducePow, Int.reduceToNat, Nat.reduceAdd, e1_3, e2_3]
        refine eff_call_of ?_
        simp (disch := first | omega | assumption) only [C.maps_wone_gos, vs, Go.Vc.vk, T.ts, ↓reduceIte, Nat.reduceEqDiff, reduceCtorEq, Nat.reduceLeDiff, Nat.reducePow, Int.reducePow, Int.reduceToNat, Nat.reduceAdd]
        refine (wnum_any (delta) 2 (by omega) (by first | omega | (simp only [List.length_append, bigS_len, List.length_singleton, List.length_drop]; omega)) HW3).mono ?_
        rintro v4 h4 ⟨HW4, HK4'⟩
        have HK4 := HK3.trans HK4'
        have fb4 := HK4'.blk fb3 hfg (by decide)
        have e1_4 : cellAt h4 ⟨fb, 1, none⟩ = some (.slice aL L.length cL) := by rw [cellAt_of fb4]; rfl
        have e2_4 : cellAt h4 ⟨fb, 2, none⟩ = some (.slice aS S.length cS) := by rw [cellAt_of fb4]; rfl
        rw [atU_nat (by omega)] at HW4
        simp (disch := first | omega | assumption) only [C.maps_wone_gos, vs, Go.Vc.vk, T.ts, ↓reduceIte, Nat.reduceEqDiff, reduceCtorEq, Nat.reduceLeDiff, Nat.reducePow, Int.reducePow, Int.reduceToNat, Nat.reduceAdd, e1_4, e2_4]
        refine eff_call_of ?_
        simp (disch := first | omega | assumption) only [C.maps_wone_gos, vs, Go.Vc.vk, T.ts, ↓reduceIte, Nat.reduceEqDiff, reduceCtorEq, Nat.reduceLeDiff, Nat.reducePow, Int.reducePow, Int.reduceToNat, Nat.reduceAdd]
        refine (wnum_any (L.length) 2 (by omega) (by first | omega | (simp only [List.length_append, bigS_len, List.length_singleton, List.length_drop]; omega)) HW4).mono ?_
        rintro v5 h5 ⟨HW5, HK5'⟩
        have HK5 := HK4.trans HK5'
        have fb5 := HK5'.blk fb4 hfg (by decide)
        have e1_5 : cellAt h5 ⟨fb, 1, none⟩ = some (.slice aL L.length cL) := by rw [cellAt_of fb5]; rfl
        have e2_5 : cellAt h5 ⟨fb, 2, none⟩ = some (.slice aS S.length cS) := by rw [cellAt_of fb5]; rfl
        rw [atU_nat (by omega)] at HW5
        simp (disch := first | omega | assumption) only [C.maps_wone_gos, vs, Go.Vc.vk, T.ts, ↓reduceIte, Nat.reduceEqDiff, reduceCtorEq, Nat.reduceLeDiff, Nat.reducePow, Int.reducePow, Int.reduceToNat, Nat.reduceAdd, e1_5, e2_5]
        refine eff_call_of ?_
        simp (disch := first | omega | assumption) only [C.maps_wone_gos, vs, Go.Vc.vk, T.ts, ↓reduceIte, Nat.reduceEqDiff, reduceCtorEq, Nat.reduceLeDiff, Nat.reducePow, Int.reducePow, Int.reduceToNat, Nat.reduceAdd]
        have hvl6 := valsS_len p (L)
        refine (wvalues_any (L) _ (hL) (fun v hv => hLf v hv) hp hpc hpf hpl (by first | omega | (simp only [List.length_append, bigS_len, List.length_singleton, List.length_drop]; omega)) HW5).mono ?_
        rintro v6 h6 ⟨HW6, HK6'⟩
        have HK6 := HK5.trans HK6'
        have fb6 := HK6'.blk fb5 hfg (by decide)
        have e1_6 : cellAt h6 ⟨fb, 1, none⟩ = some (.slice aL L.length cL) := by rw [cellAt_of fb6]; rfl
        have e2_6 : cellAt h6 ⟨fb, 2, none⟩ = some (.slice aS S.length cS) := by rw [cellAt_of fb6]; rfl
        simp (disch := first | omega | assumption) only [C.maps_wone_gos, vs, Go.Vc.vk, T.ts, ↓reduceIte, Nat.reduceEqDiff, reduceCtorEq, Nat.reduceLeDiff, Nat.reducePow, Int.reducePow, Int.reduceToNat, Nat.reduceAdd, e1_6, e2_6]
        refine eff_call_of ?_
        simp (disch := first | omega | assumption) only [C.maps_wone_gos, vs, Go.Vc.vk, T.ts, ↓reduceIte, Nat.reduceEqDiff, reduceCtorEq, Nat.reduceLeDiff, Nat.reducePow, Int.reducePow, Int.reduceToNat, Nat.reduceAdd]
        refine (wnum_any (S.length) 2 (by omega) (by first | omega | (simp only [List.length_append, bigS_len, List.length_singleton, List.length_drop]; omega)) HW6).mono ?_
        rintro v7 h7 ⟨HW7, HK7'⟩
        have HK7 := HK6.trans HK7'
        have fb7 := HK7'.blk fb6 hfg (by decide)
        have e1_7 : cellAt h7 ⟨fb, 1, none⟩ = some (.slice aL L.length cL) := by rw [cellAt_of fb7]; rfl
        have e2_7 : cellAt h7 ⟨fb, 2, none⟩ = some (.slice aS S.length cS) := by rw [cellAt_of fb7]; rfl
        rw [atU_nat (by omega)] at HW7
        simp (disch := first | omega | assumption) only [C.maps_wone_gos, vs, Go.Vc.vk, T.ts, ↓reduceIte, Nat.reduceEqDiff, reduceCtorEq, Nat.reduceLeDiff, Nat.reducePow, Int.reducePow, Int.reduceToNat, Nat.reduceAdd, e1_7, e2_7]
        refine eff_call_of ?_
        simp (disch := first | omega | assumption) only [C.maps_wone_gos, vs, Go.Vc.vk, T.ts, ↓reduceIte, Nat.reduceEqDiff, reduceCtorEq, Nat.reduceLeDiff, Nat.reducePow, Int.reducePow, Int.reduceToNat, Nat.reduceAdd]
        have hvl8 := valsS_len p (S)
        refine (wvalues_any (S) _ (hS) (fun v hv => hSf v hv) hp hpc hpf hpl (by first | omega | (simp only [List.length_append, bigS_len, List.length_singleton, List.length_drop]; omega)) HW7).mono ?_
        rintro v8 h8 ⟨HW8, HK8'⟩
        have HK8 := HK7.trans HK8'
        have fb8 := HK8'.blk fb7 hfg (by decide)
        have e1_8 : cellAt h8 ⟨fb, 1, none⟩ = some (.slice aL L.length cL) := by rw [cellAt_of fb8]; rfl
        have e2_8 : cellAt h8 ⟨fb, 2, none⟩ = some (.slice aS S.length cS) := by rw [cellAt_of fb8]; rfl
        simp (disch := first | omega | assumption) only [C.maps_wone_gos, vs, Go.Vc.vk, T.ts, ↓reduceIte, Nat.reduceEqDiff, reduceCtorEq, Nat.reduceLeDiff, Nat.reducePow, Int.reducePow, Int.reduceToNat, Nat.reduceAdd]
        refine ⟨?_, HK8⟩
        unfold defS
        rw [← thenE_assoc]
        simpa [List.append_assoc] using HW8
  have hs0' : (S.length : Int) = 0 := by omega
  by_cases hlt : L.length < loc.length
  · have n1 : (L.length : Int) - loc.length < 0 := by omega
    have n2 : ¬ (0 : Int) < (L.length : Int) - loc.length := by omega
    by_cases h3 : (-3 : Int) ≤ (L.length : Int) - loc.length
    · have h3' : loc.length ≤ L.length + 3 := by omega
      simp (disch := first | omega | assumption) only [C.maps_wone_gos, vs, Go.Vc.vk, T.ts, ↓reduceIte, Nat.reduceEqDiff, reduceCtorEq, Nat.reduceLeDiff, Nat.reducePow, Int.reducePow, Int.reduceToNat, Nat.reduceAdd, c1, c2, Int.reduceEq, Int.reduceNeg, decide_true, decide_false, eq_false hn0, eq_true hs0', n1, n2, h3]
      refine eff_call_of ?_
      simp (disch := first | omega | assumption) only [C.maps_wone_gos, vs, Go.Vc.vk, T.ts, ↓reduceIte, Nat.reduceEqDiff, reduceCtorEq, Nat.reduceLeDiff, Nat.reducePow, Int.reducePow, Int.reduceToNat, Nat.reduceAdd]
      refine (wnum_any (251 + ((L.length : Int) - loc.length)) 1 (by omega) (by first | omega | (simp only [List.length_append, bigS_len, List.length_singleton, List.length_drop]; omega)) H1).mono ?_
      rintro v3 h3 ⟨HW3, HK3'⟩
      have HK3 := K1.trans HK3'
      have fb3 := HK3'.blk fb0 hfg (by decide)
      have e1_3 : cellAt h3 ⟨fb, 1, none⟩ = some (.slice aL L.length cL) := by rw [cellAt_of fb3]; rfl
      have e2_3 : cellAt h3 ⟨fb, 2, none⟩ = some (.slice aS S.length cS) := by rw [cellAt_of fb3]; rfl
      rw [show (251 : Int) + ((L.length : Int) - loc.length) = ((251 + L.length - loc.length : Nat) : Int) by omega, atU_nat (by omega), bigS_one, Nat.mod_eq_of_lt (by omega)] at HW3
      simp (disch := first | omega | assumption) only [C.maps_wone_gos, vs, Go.Vc.vk, T.ts, ↓reduceIte, Nat.reduceEqDiff, reduceCtorEq, Nat.reduceLeDiff, Nat.reducePow, Int.reducePow, Int.reduceToNat, Nat.reduceAdd, e1_3, e2_3]
      refine eff_call_of ?_
      simp (disch := first | omega | assumption) only [C.maps_wone_gos, vs, Go.Vc.vk, T.ts, ↓reduceIte, Nat.reduceEqDiff, reduceCtorEq, Nat.reduceLeDiff, Nat.reducePow, Int.reducePow, Int.reduceToNat, Nat.reduceAdd]
      refine (wnum_any (delta) 2 (by omega) (by first | omega | (simp only [List.length_append, bigS_len, List.length_singleton, List.length_drop]; omega)) HW3).mono ?_
      rintro v4 h4 ⟨HW4, HK4'⟩
      have HK4 := HK3.trans HK4'
      have fb4 := HK4'.blk fb3 hfg (by decide)
      have e1_4 : cellAt h4 ⟨fb, 1, none⟩ = some (.slice aL L.length cL) := by rw [cellAt_of fb4]; rfl
      have e2_4 : cellAt h4 ⟨fb, 2, none⟩ = some (.slice aS S.length cS) := by rw [cellAt_of fb4]; rfl
      rw [atU_nat (by omega)] at HW4
      simp (disch := first | omega | assumption) only [C.maps_wone_gos, vs, Go.Vc.vk, T.ts, ↓reduceIte, Nat.reduceEqDiff, reduceCtorEq, Nat.reduceLeDiff, Nat.reducePow, Int.reducePow, Int.reduceToNat, Nat.reduceAdd]
      refine ⟨?_, HK4⟩
      have hfr : frS p ⟨fat, L, S⟩ delta loc = (UInt8.ofNat (251 + L.length - loc.length) :: bigS delta 2, 0) := by unfold frS; simp only [hk, hn, hs0, hlt, h3', if_true, if_false]
      rw [hfr]
      rw [thenE_zero]
      simpa [List.append_assoc] using HW4
    · have h3' : ¬ loc.length ≤ L.length + 3 := by omega
      have hfr : frS p ⟨fat, L, S⟩ delta loc = defS p ⟨fat, L, S⟩ delta := by unfold frS; simp only [hk, hn, hs0, hlt, h3', if_true, if_false]
      rw [hfr]
      simp (disch := first | omega | assumption) only [C.maps_wone_gos, vs, Go.Vc.vk, T.ts, ↓reduceIte, Nat.reduceEqDiff, reduceCtorEq, Nat.reduceLeDiff, Nat.reducePow, Int.reducePow, Int.reduceToNat, Nat.reduceAdd, c1, c2, Int.reduceEq, Int.reduceNeg, decide_true, decide_false, eq_false hn0, eq_true hs0', n1, n2, h3]
      refine eff_call_of ?_
      simp (disch := first | omega | assumption) only [C.maps_wone_gos, vs, Go.Vc.vk, T.ts, ↓reduceIte, Nat.reduceEqDiff, reduceCtorEq, Nat.reduceLeDiff, Nat.reducePow, Int.reducePow, Int.reduceToNat, Nat.reduceAdd]
      refine (wnum_any (255) 1 (by omega) (by first | omega | (simp only [List.length_append, bigS_len, List.length_singleton, List.length_drop]; omega)) H1).mono ?_
      rintro v3 h3 ⟨HW3, HK3'⟩
      have HK3 := K1.trans HK3'
      have fb3 := HK3'.blk fb0 hfg (by decide)
      have e1_3 : cellAt h3 ⟨fb, 1, none⟩ = some (.slice aL L.length cL) := by rw [cellAt_of fb3]; rfl
      have e2_3 : cellAt h3 ⟨fb, 2, none⟩ = some (.slice aS S.length cS) := by rw [cellAt_of fb3]; rfl
      rw [show atU 255 = 255 from rfl, bigS_one] at HW3
      simp (disch := first | omega | assumption) only [C.maps_wone_gos, vs, Go.Vc.vk, T.ts, ↓reduceIte, Nat.reduceEqDiff, reduceCtorEq, Nat.reduceLeDiff, Nat.reducePow, Int.reducePow, Int.reduceToNat, Nat.reduceAdd, e1_3, e2_3]
      refine eff_call_of ?_
      simp (disch := first | omega | assumption) only [C.maps_wone_gos, vs, Go.Vc.vk, T.ts, ↓reduceIte, Nat.reduceEqDiff, reduceCtorEq, Nat.reduceLeDiff, Nat.reducePow, Int.reducePow, Int.reduceToNat, Nat.reduceAdd]
      refine (wnum_any (delta) 2 (by omega) (by first | omega | (simp only [List.length_append, bigS_len, List.length_singleton, List.length_drop]; omega)) HW3).mono ?_
      rintro v4 h4 ⟨HW4, HK4'⟩
      have HK4 := HK3.trans HK4'
      have fb4 := HK4'.blk fb3 hfg (by decide)
      have e1_4 : cellAt h4 ⟨fb, 1, none⟩ = some (.slice aL L.length cL) := by rw [cellAt_of fb4]; rfl
      have e2_4 : cellAt h4 ⟨fb, 2, none⟩ = some (.slice aS S.length cS) := by rw [cellAt_of fb4]; rfl
      rw [atU_nat (by omega)] at HW4
      simp (disch := first | omega | assumption) only [C.maps_wone_gos, vs, Go.Vc.vk, T.ts, ↓reduceIte, Nat.reduceEqDiff, reduceCtorEq, Nat.reduceLeDiff, Nat.reducePow, Int.reducePow, Int.reduceToNat, Nat.reduceAdd, e1_4, e2_4]
      refine eff_call_of ?_
      simp (disch := first | omega | assumption) only [C.maps_wone_gos, vs, Go.Vc.vk, T.ts, ↓reduceIte, Nat.reduceEqDiff, reduceCtorEq, Nat.reduceLeDiff, Nat.reducePow, Int.reducePow, Int.reduceToNat, Nat.reduceAdd]
      refine (wnum_any (L.length) 2 (by omega) (by first | omega | (simp only [List.length_append, bigS_len, List.length_singleton, List.length_drop]; omega)) HW4).mono ?_
      rintro v5 h5 ⟨HW5, HK5'⟩
      have HK5 := HK4.trans HK5'
      have fb5 := HK5'.blk fb4 hfg (by decide)
      have e1_5 : cellAt h5 ⟨fb, 1, none⟩ = some (.slice aL L.length cL) := by rw [cellAt_of fb5]; rfl
      have e2_5 : cellAt h5 ⟨fb, 2, none⟩ = some (.slice aS S.length cS) := by rw [cellAt_of fb5]; rfl
      rw [atU_nat (by omega)] at HW5
      simp (disch := first | omega | assumption) only [C.maps_wone_gos, vs, Go.Vc.vk, T.ts, ↓reduceIte, Nat.reduceEqDiff, reduceCtorEq, Nat.reduceLeDiff, Nat.reducePow, Int.reducePow, Int.reduceToNat, Nat.reduceAdd, e1_5, e2_5]
      refine eff_call_of ?_
      simp (disch := first | omega | assumption) only [C.maps_wone_gos, vs, Go.Vc.vk, T.ts, ↓reduceIte, Nat.reduceEqDiff, reduceCtorEq, Nat.reduceLeDiff, Nat.reducePow, Int.reducePow, Int.reduceToNat, Nat.reduceAdd]
      have hvl6 := valsS_len p (L)
      refine (wvalues_any (L) _ (hL) (fun v hv => hLf v hv) hp hpc hpf hpl (by first | omega | (simp only [List.length_append, bigS_len, List.length_singleton, List.length_drop]; omega)) HW5).mono ?_
      rintro v6 h6 ⟨HW6, HK6'⟩
      have HK6 := HK5.trans HK6'
      have fb6 := HK6'.blk fb5 hfg (by decide)
      have e1_6 : cellAt h6 ⟨fb, 1, none⟩ = some (.slice aL L.length cL) := by rw [cellAt_of fb6]; rfl
      have e2_6 : cellAt h6 ⟨fb, 2, none⟩ = some (.slice aS S.length cS) := by rw [cellAt_of fb6]; rfl
      simp (disch := first | omega | assumption) only [C.maps_wone_gos, vs, Go.Vc.vk, T.ts, ↓reduceIte, Nat.reduceEqDiff, reduceCtorEq, Nat.reduceLeDiff, Nat.reducePow, Int.reducePow, Int.reduceToNat, Nat.reduceAdd, e1_6, e2_6]
      refine eff_call_of ?_
      simp (disch := first | omega | assumption) only [C.maps_wone_gos, vs, Go.Vc.vk, T.ts, ↓reduceIte, Nat.reduceEqDiff, reduceCtorEq, Nat.reduceLeDiff, Nat.reducePow, Int.reducePow, Int.reduceToNat, Nat.reduceAdd]
      refine (wnum_any (S.length) 2 (by omega) (by first | omega | (simp only [List.length_append, bigS_len, List.length_singleton, List.length_drop]; omega)) HW6).mono ?_
      rintro v7 h7 ⟨HW7, HK7'⟩
      have HK7 := HK6.trans HK7'
      have fb7 := HK7'.blk fb6 hfg (by decide)
      have e1_7 : cellAt h7 ⟨fb, 1, none⟩ = some (.slice aL L.length cL) := by rw [cellAt_of fb7]; rfl
      have e2_7 : cellAt h7 ⟨fb, 2, none⟩ = some (.slice aS S.length cS) := by rw [cellAt_of fb7]; rfl
      rw [atU_nat (by omega)] at HW7
      simp (disch := first | omega | assumption) only [C.maps_wone_gos, vs, Go.Vc.vk, T.ts, ↓reduceIte, Nat.reduceEqDiff, reduceCtorEq, Nat.reduceLeDiff, Nat.reducePow, Int.reducePow, Int.reduceToNat, Nat.reduceAdd, e1_7, e2_7]
      refine eff_call_of ?_
      simp (disch := first | omega | assumption) only [C.maps_wone_gos, vs, Go.Vc.vk, T.ts, ↓reduceIte, Nat.reduceEqDiff, reduceCtorEq, Nat.reduceLeDiff, Nat.reducePow, Int.reducePow, Int.reduceToNat, Nat.reduceAdd]
      have hvl8 := valsS_len p (S)
      refine (wvalues_any (S) _ (hS) (fun v hv => hSf v hv) hp hpc hpf hpl (by first | omega | (simp only [List.length_append, bigS_len, List.length_singleton, List.length_drop]; omega)) HW7).mono ?_
      rintro v8 h8 ⟨HW8, HK8'⟩
      have HK8 := HK7.trans HK8'
      have fb8 := HK8'.blk fb7 hfg (by decide)
      have e1_8 : cellAt h8 ⟨fb, 1, none⟩ = some (.slice aL L.length cL) := by rw [cellAt_of fb8]; rfl
      have e2_8 : cellAt h8 ⟨fb, 2, none⟩ = some (.slice aS S.length cS) := by rw [cellAt_of fb8]; rfl
      simp (disch := first | omega | assumption) only [C.maps_wone_gos, vs, Go.Vc.vk, T.ts, ↓reduceIte, Nat.reduceEqDiff, reduceCtorEq, Nat.reduceLeDiff, Nat.reducePow, Int.reducePow, Int.reduceToNat, Nat.reduceAdd]
      refine ⟨?_, HK8⟩
      unfold defS
      rw [← thenE_assoc]
      simpa [List.append_assoc] using HW8
  · have n1 : ¬ (L.length : Int) - loc.length < 0 := by omega
    have n2 : (0 : Int) < (L.length : Int) - loc.length := by omega
    by_cases h3 : (L.length : Int) - loc.length ≤ 3
    · have h3' : L.length ≤ loc.length + 3 := by omega
      simp (disch := first | omega | assumption) only [C.maps_wone_gos, vs, Go.Vc.vk, T.ts, ↓reduceIte, Nat.reduceEqDiff, reduceCtorEq, Nat.reduceLeDiff, Nat.reducePow, Int.reducePow, Int.reduceToNat, Nat.reduceAdd, c1, c2, Int.reduceEq, Int.reduceNeg, decide_true, decide_false, eq_false hn0, eq_true hs0', n1, n2, h3]
      refine eff_call_of ?_
      simp (disch := first | omega | assumption) only [C.maps_wone_gos, vs, Go.Vc.vk, T.ts, ↓reduceIte, Nat.reduceEqDiff, reduceCtorEq, Nat.reduceLeDiff, Nat.reducePow, Int.reducePow, Int.reduceToNat, Nat.reduceAdd]
      refine (wnum_any (251 + ((L.length : Int) - loc.length)) 1 (by omega) (by first | omega | (simp only [List.length_append, bigS_len, List.length_singleton, List.length_drop]; omega)) H1).mono ?_
      rintro v3 h3 ⟨HW3, HK3'⟩
      have HK3 := K1.trans HK3'
      have fb3 := HK3'.blk fb0 hfg (by decide)
      have e1_3 : cellAt h3 ⟨fb, 1, none⟩ = some (.slice aL L.length cL) := by rw [cellAt_of fb3]; rfl
      have e2_3 : cellAt h3 ⟨fb, 2, none⟩ = some (.slice aS S.length cS) := by rw [cellAt_of fb3]; rfl
      rw [show (251 : Int) + ((L.length : Int) - loc.length) = ((251 + L.length - loc.length : Nat) : Int) by omega, atU_nat (by omega), bigS_one, Nat.mod_eq_of_lt (by omega)] at HW3
      simp (disch := first | omega | assumption) only [C.maps_wone_gos, vs, Go.Vc.vk, T.ts, ↓reduceIte, Nat.reduceEqDiff, reduceCtorEq, Nat.reduceLeDiff, Nat.reducePow, Int.reducePow, Int.reduceToNat, Nat.reduceAdd, e1_3, e2_3]
      refine eff_call_of ?_
      simp (disch := first | omega | assumption) only [C.maps_wone_gos, vs, Go.Vc.vk, T.ts, ↓reduceIte, Nat.reduceEqDiff, reduceCtorEq, Nat.reduceLeDiff, Nat.reducePow, Int.reducePow, Int.reduceToNat, Nat.reduceAdd]
      refine (wnum_any (delta) 2 (by omega) (by first | omega | (simp only [List.length_append, bigS_len, List.length_singleton, List.length_drop]; omega)) HW3).mono ?_
      rintro v4 h4 ⟨HW4, HK4'⟩
      have HK4 := HK3.trans HK4'
      have fb4 := HK4'.blk fb3 hfg (by decide)
      have e1_4 : cellAt h4 ⟨fb, 1, none⟩ = some (.slice aL L.length cL) := by rw [cellAt_of fb4]; rfl
      have e2_4 : cellAt h4 ⟨fb, 2, none⟩ = some (.slice aS S.length cS) := by rw [cellAt_of fb4]; rfl
      rw [atU_nat (by omega)] at HW4
      have hsl : sm = loc.length := by omega
      have sub3 := SlN.sub (lo := sm) (hi := L.length) hL (by omega) (Nat.le_refl _) hcL
      have hfull : (flatV L).take (L.length * 3) = flatV L := List.take_of_length_le (by rw [flatV_len]; omega)
      have hdl : L.length - sm = (L.drop loc.length).length := by rw [List.length_drop]; omega
      rw [hfull, flatV_drop, hdl, hsl] at sub3
      rw [hsl] at hdl
      have hsml : (sm : Int) ≤ L.length := by omega
      simp (disch := first | omega | assumption) only [C.maps_wone_gos, vs, Go.Vc.vk, T.ts, ↓reduceIte, Nat.reduceEqDiff, reduceCtorEq, Nat.reduceLeDiff, Nat.reducePow, Int.reducePow, Int.reduceToNat, Nat.reduceAdd, e1_4, e2_4, hsml, Int.toNat_natCast, hsl, hdl]
      refine eff_call_of ?_
      simp (disch := first | omega | assumption) only [C.maps_wone_gos, vs, Go.Vc.vk, T.ts, ↓reduceIte, Nat.reduceEqDiff, reduceCtorEq, Nat.reduceLeDiff, Nat.reducePow, Int.reducePow, Int.reduceToNat, Nat.reduceAdd]
      have hvl5 := valsS_len p (L.drop loc.length)
      refine (wvalues_any (L.drop loc.length) _ (sub3) (fun v hv => hLf v (List.mem_of_mem_drop hv)) hp hpc hpf hpl (by first | omega | (simp only [List.length_append, bigS_len, List.length_singleton, List.length_drop]; omega)) HW4).mono ?_
      rintro v5 h5 ⟨HW5, HK5'⟩
      have HK5 := HK4.trans HK5'
      have fb5 := HK5'.blk fb4 hfg (by decide)
      have e1_5 : cellAt h5 ⟨fb, 1, none⟩ = some (.slice aL L.length cL) := by rw [cellAt_of fb5]; rfl
      have e2_5 : cellAt h5 ⟨fb, 2, none⟩ = some (.slice aS S.length cS) := by rw [cellAt_of fb5]; rfl
      simp (disch := first | omega | assumption) only [C.maps_wone_gos, vs, Go.Vc.vk, T.ts, ↓reduceIte, Nat.reduceEqDiff, reduceCtorEq, Nat.reduceLeDiff, Nat.reducePow, Int.reducePow, Int.reduceToNat, Nat.reduceAdd]
      refine ⟨?_, HK5⟩
      have hfr : frS p ⟨fat, L, S⟩ delta loc = (UInt8.ofNat (251 + L.length - loc.length) :: (bigS delta 2 ++ (valsS p (L.drop loc.length)).1), (valsS p (L.drop loc.length)).2) := by unfold frS; simp only [hk, hn, hs0, hlt, h3', if_true, if_false]
      rw [hfr]
      simpa [List.append_assoc] using HW5
    · have h3' : ¬ L.length ≤ loc.length + 3 := by omega
      have hfr : frS p ⟨fat, L, S⟩ delta loc = defS p ⟨fat, L, S⟩ delta := by unfold frS; simp only [hk, hn, hs0, hlt, h3', if_true, if_false]
      rw [hfr]
      simp (disch := first | omega | assumption) only [C.maps_wone_gos, vs, Go.Vc.vk, T.ts, ↓reduceIte, Nat.reduceEqDiff, reduceCtorEq, Nat.reduceLeDiff, Nat.reducePow, Int.reducePow, Int.reduceToNat, Nat.reduceAdd, c1, c2, Int.reduceEq, Int.reduceNeg, decide_true, decide_false, eq_false hn0, eq_true hs0', n1, n2, h3]
      refine eff_call_of ?_
      simp (disch := first | omega | assumption) only [C.maps_wone_gos, vs, Go.Vc.vk, T.ts, ↓reduceIte, Nat.reduceEqDiff, reduceCtorEq, Nat.reduceLeDiff, Nat.reducePow, Int.reducePow, Int.reduceToNat, Nat.reduceAdd]
      refine (wnum_any (255) 1 (by omega) (by first | omega | (simp only [List.length_append, bigS_len, List.length_singleton, List.length_drop]; omega)) H1).mono ?_
      rintro v3 h3 ⟨HW3, HK3'⟩
      have HK3 := K1.trans HK3'
      have fb3 := HK3'.blk fb0 hfg (by decide)
      have e1_3 : cellAt h3 ⟨fb, 1, none⟩ = some (.slice aL L.length cL) := by rw [cellAt_of fb3]; rfl
      have e2_3 : cellAt h3 ⟨fb, 2, none⟩ = some (.slice aS S.length cS) := by rw [cellAt_of fb3]; rfl
      rw [show atU 255 = 255 from rfl, bigS_one] at HW3
      simp (disch := first | omega | assumption) only [C.maps_wone_gos, vs, Go.Vc.vk, T.ts, ↓reduceIte, Nat.reduceEqDiff, reduceCtorEq, Nat.reduceLeDiff, Nat.reducePow, Int.reducePow, Int.reduceToNat, Nat.reduceAdd, e1_3, e2_3]
      refine eff_call_of ?_
      simp (disch := first | omega | assumption) only [C.maps_wone_gos, vs, Go.Vc.vk, T.ts, ↓reduceIte, Nat.reduceEqDiff, reduceCtorEq, Nat.reduceLeDiff, Nat.reducePow, Int.reducePow, Int.reduceToNat, Nat.reduceAdd]
      refine (wnum_any (delta) 2 (by omega) (by first | omega | (simp only [List.length_append, bigS_len, List.length_singleton, List.length_drop]; omega)) HW3).mono ?_
      rintro v4 h4 ⟨HW4, HK4'⟩
      have HK4 := HK3.trans HK4'
      have fb4 := HK4'.blk fb3 hfg (by decide)
      have e1_4 : cellAt h4 ⟨fb, 1, none⟩ = some (.slice aL L.length cL) := by rw [cellAt_of fb4]; rfl
      have e2_4 : cellAt h4 ⟨fb, 2, none⟩ = some (.slice aS S.length cS) := by rw [cellAt_of fb4]; rfl
      rw [atU_nat (by omega)] at HW4
      simp (disch := first | omega | assumption) only [C.maps_wone_gos, vs, Go.Vc.vk, T.ts, ↓reduceIte, Nat.reduceEqDiff, reduceCtorEq, Nat.reduceLeDiff, Nat.reducePow, Int.reducePow, Int.reduceToNat, Nat.reduceAdd, e1_4, e2_4]
      refine eff_call_of ?_
      simp (disch := first | omega | assumption) only [C.maps_wone_gos, vs, Go.Vc.vk, T.ts, ↓reduceIte, Nat.reduceEqDiff, reduceCtorEq, Nat.reduceLeDiff, Nat.reducePow, Int.reducePow, Int.reduceToNat, Nat.reduceAdd]
      refine (wnum_any (L.length) 2 (by omega) (by first | omega | (simp only [List.length_append, bigS_len, List.length_singleton, List.length_drop]; omega)) HW4).mono ?_
      rintro v5 h5 ⟨HW5, HK5'⟩
      have HK5 := HK4.trans HK5'
      have fb5 := HK5'.blk fb4 hfg (by decide)
      have e1_5 : cellAt h5 ⟨fb, 1, none⟩ = some (.slice aL L.length cL) := by rw [cellAt_of fb5]; rfl
      have e2_5 : cellAt h5 ⟨fb, 2, none⟩ = some (.slice aS S.length cS) := by rw [cellAt_of fb5]; rfl
      rw [atU_nat (by omega)] at HW5
      simp (disch := first | omega | assumption) only [C.maps_wone_gos, vs, Go.Vc.vk, T.ts, ↓reduceIte, Nat.reduceEqDiff, reduceCtorEq, Nat.reduceLeDiff, Nat.reducePow, Int.reducePow, Int.reduceToNat, Nat.reduceAdd, e1_5, e2_5]
      refine eff_call_of ?_
      simp (disch := first | omega | assumption) only [C.maps_wone_gos, vs, Go.Vc.vk, T.ts, ↓reduceIte, Nat.reduceEqDiff, reduceCtorEq, Nat.reduceLeDiff, Nat.reducePow, Int.reducePow, Int.reduceToNat, Nat.reduceAdd]
      have hvl6 := valsS_len p (L)
      refine (wvalues_any (L) _ (hL) (fun v hv => hLf v hv) hp hpc hpf hpl (by first | omega | (simp only [List.length_append, bigS_len, List.length_singleton, List.length_drop]; omega)) HW5).mono ?_
      rintro v6 h6 ⟨HW6, HK6'⟩
      have HK6 := HK5.trans HK6'
      have fb6 := HK6'.blk fb5 hfg (by decide)
      have e1_6 : cellAt h6 ⟨fb, 1, none⟩ = some (.slice aL L.length cL) := by rw [cellAt_of fb6]; rfl
      have e2_6 : cellAt h6 ⟨fb, 2, none⟩ = some (.slice aS S.length cS) := by rw [cellAt_of fb6]; rfl
      simp (disch := first | omega | assumption) only [C.maps_wone_gos, vs, Go.Vc.vk, T.ts, ↓reduceIte, Nat.reduceEqDiff, reduceCtorEq, Nat.reduceLeDiff, Nat.reducePow, Int.reducePow, Int.reduceToNat, Nat.reduceAdd, e1_6, e2_6]
      refine eff_call_of ?_
      simp (disch := first | omega | assumption) only [C.maps_wone_gos, vs, Go.Vc.vk, T.ts, ↓reduceIte, Nat.reduceEqDiff, reduceCtorEq, Nat.reduceLeDiff, Nat.reducePow, Int.reducePow, Int.reduceToNat, Nat.reduceAdd]
      refine (wnum_any (S.length) 2 (by omega) (by first | omega | (simp only [List.length_append, bigS_len, List.length_singleton, List.length_drop]; omega)) HW6).mono ?_
      rintro v7 h7 ⟨HW7, HK7'⟩
      have HK7 := HK6.trans HK7'
      have fb7 := HK7'.blk fb6 hfg (by decide)
      have e1_7 : cellAt h7 ⟨fb, 1, none⟩ = some (.slice aL L.length cL) := by rw [cellAt_of fb7]; rfl
      have e2_7 : cellAt h7 ⟨fb, 2, none⟩ = some (.slice aS S.length cS) := by rw [cellAt_of fb7]; rfl
      rw [atU_nat (by omega)] at HW7
      simp (disch := first | omega | assumption) only [C.maps_wone_gos, vs, Go.Vc.vk, T.ts, ↓reduceIte, Nat.reduceEqDiff, reduceCtorEq, Nat.reduceLeDiff, Nat.reducePow, Int.reducePow, Int.reduceToNat, Nat.reduceAdd, e1_7, e2_7]
      refine eff_call_of ?_
      simp (disch := first | omega | assumption) only [C.maps_wone_gos, vs, Go.Vc.vk, T.ts, ↓reduceIte, Nat.reduceEqDiff, reduceCtorEq, Nat.reduceLeDiff, Nat.reducePow, Int.reducePow, Int.reduceToNat, Nat.reduceAdd]
      have hvl8 := valsS_len p (S)
      refine (wvalues_any (S) _ (hS) (fun v hv => hSf v hv) hp hpc hpf hpl (by first | omega | (simp only [List.length_append, bigS_len, List.length_singleton, List.length_drop]; omega)) HW7).mono ?_
      rintro v8 h8 ⟨HW8, HK8'⟩
      have HK8 := HK7.trans HK8'
      have fb8 := HK8'.blk fb7 hfg (by decide)
      have e1_8 : cellAt h8 ⟨fb, 1, none⟩ = some (.slice aL L.length cL) := by rw [cellAt_of fb8]; rfl
      have e2_8 : cellAt h8 ⟨fb, 2, none⟩ = some (.slice aS S.length cS) := by rw [cellAt_of fb8]; rfl
      simp (disch := first | omega | assumption) only [C.maps_wone_gos, vs, Go.Vc.vk, T.ts, ↓reduceIte, Nat.reduceEqDiff, reduceCtorEq, Nat.reduceLeDiff, Nat.reducePow, Int.reducePow, Int.reduceToNat, Nat.reduceAdd]
      refine ⟨?_, HK8⟩
      unfold defS
      rw [← thenE_assoc]
      simpa [List.append_assoc] using HW8
end
end Go.Proofs.Ytohkbpnblkkdgaa

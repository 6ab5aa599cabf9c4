/- class.Read, by its stages. -/
import Derived.Test.YtohkbpnblkkdgaaLW
import Derived.Test.YtohkbpnblkkdgaaCzr
namespace Go.Proofs.Ytohkbpnblkkdgaa
open Go.Vc
set_option maxRecDepth 100000
set_option linter.unusedSimpArgs false
set_option linter.unusedVariables false

section
variable {h0 hx : Heap} {g gr rb mi ma fl th su : Nat} {l : List UInt8} {p : List Cst} {is : List Nat} {fs : List Fld} {ms : List Mth} {vp vi vf vm x6 x7 x8 x9 x10 x11 x21 x64 x116 x147 x175 x196 x216 : Value} {t : RS} {X : Cls × Nat × Nat}
theorem cls0_C (h : Heap) : ClsC h cls0 (.slice none 0 0) (.slice none 0 0) (.slice none 0 0) (.slice none 0 0) :=
  ⟨⟨rfl, _, _, rfl, .inl rfl⟩, by simp [capOk], ⟨rfl, _, _, rfl, .inl rfl⟩, by simp [capOk], ⟨rfl, _, _, rfl, .inl rfl⟩, by simp [capOk], ⟨[], rfl, ⟨rfl, _, _, rfl, .inl rfl⟩, fun j hj => absurd hj (Nat.not_lt_zero j)⟩, by simp [capOk]⟩
theorem Rd_block1 {h : Heap} {b : Nat} {v : Value} {vs : List Value} {e : TypeId} {fz : Nat × Nat} (hb : h[b]? = some (.cells (v :: vs).toArray e fz)) : Rd h b 1 vs := by
  intro j w hw
  rw [cellAt_of hb]; simpa [Nat.add_comm] using hw
set_option maxHeartbeats 4000000 in
theorem read_t0 (D : RD h0 g gr rb l [.int .u16 (mi : Int), .int .u16 (ma : Int), .int .u16 (fl : Int), .int .u16 (th : Int), .int .u16 (su : Int), vp, vi, vf, vm] p is fs ms vp vi vf vm t hx) (hX : finC (⟨mi, ma, fl, th, su, p, is, fs, ms⟩, t) = X) :
    Cd.vc Try.prog C.class_Read_t0 (retQ Try.prog [(2, some 43), (3, none), (4, none)] (clsPost h0 X)) [(0, str l), (2, .pointer (some ⟨rb, 0, none⟩)), (3, .int .i64 0), (4, .int .i64 0), (5, .pointer (some ⟨g, 0, none⟩)), (6, .pointer (some ⟨g, 1, none⟩)), (9, x9), (175, x175), (196, x196)] hx := by
  rw [C.class_Read_t0_go]
  have k0 := D.b.k0
  simp (disch := first | omega | assumption) only [C.class_Read_gos, T.tv, ↓reduceIte, Nat.reduceEqDiff, reduceCtorEq, Nat.reduceLeDiff, Nat.reducePow, Int.reducePow, Int.reduceToNat, Nat.reduceAdd, k0]
  refine eff_callF rfl ((err_any D.r).mono ?_)
  rintro _ h1 ⟨rfl, rfl⟩
  have hg2 := D.g2
  by_cases he : t.e = 0
  case neg =>
    have he' : ¬ (t.e : Int) = 0 := by omega
    have hc : finC (⟨mi, ma, fl, th, su, p, is, fs, ms⟩, t) = (cls0, t.e, t.es) := by unfold finC; rw [if_pos he]
    rw [← hX, hc]
    simp (disch := first | omega | assumption) only [C.class_Read_gos, T.tv, ↓reduceIte, Nat.reduceEqDiff, reduceCtorEq, Nat.reduceLeDiff, Nat.reducePow, Int.reducePow, Int.reduceToNat, Nat.reduceAdd, eq_false he']
    refine eff_storeN_z T.zr_43 rfl rfl rfl (by simp [Value.cells, oneCell]) D.z rfl ?_
    intro h2 f2 b2
    have hld := ld_agg T.ag_43 (Rd_block (vs := ClsV cls0 (.slice none 0 0) (.slice none 0 0) (.slice none 0 0) (.slice none 0 0)) b2) rfl
    simp only [ClsV, cls0, Int.ofNat_zero, Int.natCast_zero] at hld
    simp (disch := first | omega | assumption) only [C.class_Read_gos, T.tv, ↓reduceIte, Nat.reduceEqDiff, reduceCtorEq, Nat.reduceLeDiff, Nat.reducePow, Int.reducePow, Int.reduceToNat, Nat.reduceAdd, hld]
    exact ⟨D.extS f2 (fun k _ hk => by omega), _, _, _, _, rfl, cls0_C _⟩
  case pos =>
    have he' : (t.e : Int) = 0 := by omega
    have hc : finC (⟨mi, ma, fl, th, su, p, is, fs, ms⟩, t) = (⟨mi, ma, fl, th, su, p, is, fs, ms⟩, 0, 0) := by unfold finC; rw [if_neg (by simp [he])]
    rw [← hX, hc]
    have hl1 := ld_agg T.ag_43 (Rd_block1 D.b) rfl
    simp (disch := first | omega | assumption) only [C.class_Read_gos, T.tv, ↓reduceIte, Nat.reduceEqDiff, reduceCtorEq, Nat.reduceLeDiff, Nat.reducePow, Int.reducePow, Int.reduceToNat, Nat.reduceAdd, eq_true he', hl1]
    obtain ⟨rows, hm⟩ := D.m
    obtain ⟨a1, c1, rfl, _⟩ := D.p.slN.2
    obtain ⟨a2, c2, rfl, _⟩ := D.i.slN.2
    obtain ⟨a3, c3, rfl, _⟩ := D.f.slN.2
    obtain ⟨a4, c4, rfl, _⟩ := hm.o.slN.2
    refine eff_storeN_z T.zr_43 rfl rfl rfl (by simp [Value.cells, oneCell]) D.z rfl ?_
    intro h2 f2 b2
    have hld := ld_agg T.ag_43 (Rd_block (vs := ClsV ⟨mi, ma, fl, th, su, p, is, fs, ms⟩ (.slice a1 p.length c1) (.slice a2 is.length c2) (.slice a3 fs.length c3) (.slice a4 ms.length c4)) b2) rfl
    simp only [ClsV] at hld
    simp (disch := first | omega | assumption) only [C.class_Read_gos, T.tv, ↓reduceIte, Nat.reduceEqDiff, reduceCtorEq, Nat.reduceLeDiff, Nat.reducePow, Int.reducePow, Int.reduceToNat, Nat.reduceAdd, hld]
    have hS : ∀ k, k < h1.size → k = rb → ∃ cs fz, h1[k]? = some (.cells cs 43 fz) := fun k _ hk => ⟨_, _, hk ▸ D.z⟩
    have q1 := own_keep D.p f2 hS (by decide)
    have q2 := own_keep D.i f2 hS (by decide)
    have q3 := own_keep D.f f2 hS (by decide)
    have q4 := hm.keep f2 hS (by decide) (by decide)
    exact ⟨D.extS f2 (fun k _ hk => by omega), _, _, _, _, rfl, ⟨q1.slN, q1.capOk, q2.slN, q2.capOk, q3.slN, q3.capOk, q4.cls, q4.o.capOk⟩⟩
set_option maxHeartbeats 4000000 in
theorem read_t1 (hl : l.length ≤ 1073741824) (D : RD h0 g gr rb l [.int .u16 (mi : Int), .int .u16 (ma : Int), .int .u16 (fl : Int), .int .u16 (th : Int), .int .u16 (su : Int), vp, vi, vf, vm] p is fs ms vp vi vf vm t hx) (hX : tailA p l ⟨mi, ma, fl, th, su, p, is, fs, ms⟩ t = X) :
    Cd.vc Try.prog C.class_Read_t1 (retQ Try.prog [(2, some 43), (3, none), (4, none)] (clsPost h0 X)) [(0, str l), (2, .pointer (some ⟨rb, 0, none⟩)), (3, .int .i64 0), (4, .int .i64 0), (5, .pointer (some ⟨g, 0, none⟩)), (6, .pointer (some ⟨g, 1, none⟩)), (9, x9), (175, x175)] hx := by
  rw [C.class_Read_t1_go]
  simp (disch := first | omega | assumption) only [C.class_Read_gos, T.tv, ↓reduceIte, Nat.reduceEqDiff, reduceCtorEq, Nat.reduceLeDiff, Nat.reducePow, Int.reducePow, Int.reduceToNat, Nat.reduceAdd]
  refine eff_callF rfl ((attributes_any p vp noT 57 #[] (fun _ hh => FrR gr hx hh) hl (by decide +kernel) (rc := [.int .u16 (mi : Int), .int .u16 (ma : Int), .int .u16 (fl : Int), .int .u16 (th : Int), .int .u16 (su : Int), vp, vi, vf, vm]) rfl (fun x hh f => ⟨((D.cr rfl).frR f).rd, ((D.cr rfl).frR f).pl⟩) (fun x hh hh' a b => a.trans' b) ?_ () (FrR.ext (Ext.refl _)) D.r).mono ?_)
  · intro hh name q n x s1 hx1 hr he hq hn
    refine C.class_Read_1_calls (args := [str name, .int .i64 q, .int .i64 n]) rfl ?_
    simp (disch := first | omega | assumption) only [C.class_Read_1_gos, T.tv, ↓reduceIte, Nat.reduceEqDiff, reduceCtorEq, Nat.reduceLeDiff, Nat.reducePow, Int.reducePow, Int.reduceToNat, Nat.reduceAdd]
    exact ⟨rfl, hx1, hr⟩
  rintro _ h1 ⟨f1, r1⟩
  have D1 := D.frR f1 r1
  generalize hz : (attrsR p l noT (numS l 2 t).1 () (numS l 2 t).2).2 = z at *
  have hX' : finC (⟨mi, ma, fl, th, su, p, is, fs, ms⟩, if z.p < l.length then failS 2 z.p z else z) = X := by rw [← hX, ← hz]; rfl
  have k0 := D1.b.k0
  simp (disch := first | omega | assumption) only [C.class_Read_gos, T.tv, ↓reduceIte, Nat.reduceEqDiff, reduceCtorEq, Nat.reduceLeDiff, Nat.reducePow, Int.reducePow, Int.reduceToNat, Nat.reduceAdd, k0]
  refine eff_callF rfl ((left_any hl D1.r).mono ?_)
  rintro _ h2 ⟨rfl, rfl⟩
  by_cases hlt : z.p < l.length
  · have q : (0 : Int) < ((l.length - z.p : Nat) : Int) := by omega
    rw [if_pos hlt] at hX'
    simp (disch := first | omega | assumption) only [C.class_Read_gos, T.tv, ↓reduceIte, Nat.reduceEqDiff, reduceCtorEq, Nat.reduceLeDiff, Nat.reducePow, Int.reducePow, Int.reduceToNat, Nat.reduceAdd, q, k0]
    refine eff_callF rfl ((at_any D1.r).mono ?_)
    rintro _ h3 ⟨rfl, rfl⟩
    simp (disch := first | omega | assumption) only [C.class_Read_gos, T.tv, ↓reduceIte, Nat.reduceEqDiff, reduceCtorEq, Nat.reduceLeDiff, Nat.reducePow, Int.reducePow, Int.reduceToNat, Nat.reduceAdd, k0]
    refine eff_callF rfl ((fail_any 2 z.p D1.r).mono ?_)
    rintro _ h4 ⟨f4, r4⟩
    simp (disch := first | omega | assumption) only [C.class_Read_gos, T.tv, ↓reduceIte, Nat.reduceEqDiff, reduceCtorEq, Nat.reduceLeDiff, Nat.reducePow, Int.reducePow, Int.reduceToNat, Nat.reduceAdd]
    exact read_t0 (D1.frR f4 r4) hX'
  · have q : ¬ (0 : Int) < ((l.length - z.p : Nat) : Int) := by omega
    rw [if_neg hlt] at hX'
    simp (disch := first | omega | assumption) only [C.class_Read_gos, T.tv, ↓reduceIte, Nat.reduceEqDiff, reduceCtorEq, Nat.reduceLeDiff, Nat.reducePow, Int.reducePow, Int.reduceToNat, Nat.reduceAdd, q]
    exact read_t0 D1 hX'
set_option maxHeartbeats 4000000 in
theorem read_t2 (hl : l.length ≤ 1073741824) (D : RD h0 g gr rb l [.int .u16 (mi : Int), .int .u16 (ma : Int), .int .u16 (fl : Int), .int .u16 (th : Int), .int .u16 (su : Int), vp, vi, vf, (.slice none 0 0)] p is fs [] vp vi vf (.slice none 0 0) t hx) (hX : tailM p l mi ma fl th su is fs t = X) :
    Cd.vc Try.prog C.class_Read_t2 (retQ Try.prog [(2, some 43), (3, none), (4, none)] (clsPost h0 X)) [(0, str l), (2, .pointer (some ⟨rb, 0, none⟩)), (3, .int .i64 0), (4, .int .i64 0), (5, .pointer (some ⟨g, 0, none⟩)), (6, .pointer (some ⟨g, 1, none⟩)), (8, x8), (147, x147)] hx := by
  rw [C.class_Read_t2_go]
  have k0 := D.b.k0
  simp (disch := first | omega | assumption) only [C.class_Read_gos, T.tv, ↓reduceIte, Nat.reduceEqDiff, reduceCtorEq, Nat.reduceLeDiff, Nat.reducePow, Int.reducePow, Int.reduceToNat, Nat.reduceAdd, k0]
  refine eff_callF rfl ((num_any 2 hl (by omega) D.r).mono ?_)
  rintro _ h1 ⟨f1, r1, rfl⟩
  have D1 := D.frR f1 r1
  have hk := @numS_lt l 2 t
  simp only [Nat.reducePow] at hk
  obtain ⟨K, hK⟩ : ∃ K, K = numS l 2 t := ⟨_, rfl⟩
  rw [← hK] at r1 hk D1 ⊢
  clear k0 D f1 r1
  obtain ⟨R, hRR⟩ : ∃ R, R = loopS (methodR p l) K.1 [] K.2 := ⟨_, rfl⟩
  have hX' : tailA p l ⟨mi, ma, fl, th, su, p, is, fs, R.1⟩ R.2 = X := by rw [← hX, hRR, hK]; rfl
  clear hX
  simp (disch := first | omega | assumption) only [C.class_Read_gos, T.tv, ↓reduceIte, Nat.reduceEqDiff, reduceCtorEq, Nat.reduceLeDiff, Nat.reducePow, Int.reducePow, Int.reduceToNat, Nat.reduceAdd]
  refine loop_intro [0, 2, 3, 4, 5, 6, 9] (fun m ρ hc => ∃ (k : Nat) (xs : List Mth) (w : Value) (u : RS), m = k ∧ xs.length + k ≤ 65535 ∧ ρ = [(0, str l), (2, .pointer (some ⟨rb, 0, none⟩)), (3, .int .i64 0), (4, .int .i64 0), (5, .pointer (some ⟨g, 0, none⟩)), (6, .pointer (some ⟨g, 1, none⟩)), (9, .int .i64 k)] ∧
      RD h0 g gr rb l [.int .u16 (mi : Int), .int .u16 (ma : Int), .int .u16 (fl : Int), .int .u16 (th : Int), .int .u16 (su : Int), vp, vi, vf, w] p is fs xs vp vi vf w u hc ∧ loopS (methodR p l) k xs u = R) ?_ ?_
  · simp (disch := first | omega | assumption) only [C.class_Read_gos, T.tv, ↓reduceIte, Nat.reduceEqDiff, reduceCtorEq, Nat.reduceLeDiff, Nat.reducePow, Int.reducePow, Int.reduceToNat, Nat.reduceAdd]
    exact ⟨_, K.1, [], _, K.2, rfl, by simp; omega, rfl, D1, hRR.symm⟩
  clear D1
  rintro m ρ hc ⟨k, xs, w, u, rfl, hkk, rfl, Dx, hL⟩
  have k0 := Dx.b.k0
  have ru := Dx.r
  refine Or.elim (Classical.em (0 < m ∧ u.e = 0)) (fun hgo => ?caG) (fun hgo => ?cbG)
  case caG =>
    obtain ⟨hpos, he⟩ := hgo
    obtain ⟨j, rfl⟩ : ∃ j, m = j + 1 := ⟨m - 1, by omega⟩
    have hpos' : (0 : Int) < ((j + 1 : Nat) : Int) := by omega
    have he' : (decide (u.e ≠ 0)) = false := by simp [he]
    rw [loopS, if_neg (by simp [he])] at hL
    simp (disch := first | omega | assumption) only [C.class_Read_gos, T.tv, ↓reduceIte, Nat.reduceEqDiff, reduceCtorEq, Nat.reduceLeDiff, Nat.reducePow, Int.reducePow, Int.reduceToNat, Nat.reduceAdd, hpos', k0]
    refine eff_callF rfl ((bad_any ru).mono ?_)
    rintro _ hd ⟨rfl, rfl⟩
    have k7 : cellAt hd ⟨g, 9, none⟩ = some w := by rw [show 9 = 8 + 1 from rfl, Dx.cell]; rfl
    simp (disch := first | omega | assumption) only [C.class_Read_gos, T.tv, ↓reduceIte, Nat.reduceEqDiff, reduceCtorEq, Nat.reduceLeDiff, Nat.reducePow, Int.reducePow, Int.reduceToNat, Nat.reduceAdd, he', k0, k7]
    refine eff_callF rfl ((method_any hl (Dx.cr rfl) ru).mono ?_)
    rintro _ h4 ⟨f4, r4, wH, rfl, own4⟩
    have D4 := Dx.frR f4 r4
    have ownh := own4.mono Dx.x.size
    obtain ⟨aH, cH, rfl, _⟩ := own4.slN.2
    clear k0 k7 Dx f4 r4
    have k0 := D4.b.k0
    have k7 : cellAt h4 ⟨g, 9, none⟩ = some w := by rw [show 9 = 8 + 1 from rfl, D4.cell]; rfl
    have hx : MthV (methodR p l u).1 (.slice aH (methodR p l u).1.code.hs.length cH) = [.int .u16 ((methodR p l u).1.flags : Int), .int .u16 ((methodR p l u).1.name : Int), .int .u16 ((methodR p l u).1.type : Int), .bool (methodR p l u).1.has, .int .i64 (methodR p l u).1.code.maxS, .int .i64 (methodR p l u).1.code.maxL, str (methodR p l u).1.code.bytes, .slice aH (methodR p l u).1.code.hs.length cH, str (methodR p l u).1.code.map] := rfl
    rw [hx]
    simp (disch := first | omega | assumption) only [C.class_Read_gos, T.tv, ↓reduceIte, Nat.reduceEqDiff, reduceCtorEq, Nat.reduceLeDiff, Nat.reducePow, Int.reducePow, Int.reduceToNat, Nat.reduceAdd, k0, k7]
    refine eff_lits T.slT_41 rfl rfl (by decide) ?_
    have ex : Ext h4 (h4.push (.cells (MthV (methodR p l u).1 (.slice aH (methodR p l u).1.code.hs.length cH)).toArray 81)) := Ext.push _ _
    have ba : (h4.push (.cells (MthV (methodR p l u).1 (.slice aH (methodR p l u).1.code.hs.length cH)).toArray 81))[h4.size]? = some (.cells (MthV (methodR p l u).1 (.slice aH (methodR p l u).1.code.hs.length cH)).toArray 81 (0, 0)) := by simp
    have D5 := D4.frR (FrR.ext ex) (D4.r.fr ex id)
    rw [hx] at ex ba D5
    simp (disch := first | omega | assumption) only [C.class_Read_gos, T.tv, ↓reduceIte, Nat.reduceEqDiff, reduceCtorEq, Nat.reduceLeDiff, Nat.reducePow, Int.reducePow, Int.reduceToNat, Nat.reduceAdd]
    refine ⟨by rw [show 9 = 8 + 1 from rfl, D5.cell]; rfl, ?_⟩
    generalize h4.push _ = z5 at *
    generalize h4.size = lb at *
    rw [← hx] at ba
    have hsl : SlN z5 9 (.slice (some ⟨lb, 0, none⟩) 1 1) 1 (MthV (methodR p l u).1 (.slice aH (methodR p l u).1.code.hs.length cH)) := ⟨rfl, _, _, rfl, .inr ⟨lb, 0, rfl, Rd_block ba⟩⟩
    obtain ⟨rows, hm⟩ := D5.m
    have ownh5 := ownh.ext ex
    refine eff_append_slN (m := 1) (news := (MthV (methodR p l u).1 (.slice aH (methodR p l u).1.code.hs.length cH))) T.slT_41 rfl rfl hm.o hsl (one_M rfl) (by first | omega | (simp only; omega)) (by first | omega | (simp only; omega)) D5.x.size ?_
    intro v6 z6 own6 f6
    have D6 := D5.appM hm f6 (hm.snoc ownh5 f6 own6)
    obtain ⟨a6, c6, rfl, _⟩ := own6.slN.2
    have k76 : cellAt z6 ⟨g, 9, none⟩ = some w := by rw [show 9 = 8 + 1 from rfl, D6.cell]; rfl
    simp (disch := first | omega | assumption) only [C.class_Read_gos, T.tv, ↓reduceIte, Nat.reduceEqDiff, reduceCtorEq, Nat.reduceLeDiff, Nat.reducePow, Int.reducePow, Int.reduceToNat, Nat.reduceAdd]
    refine eff_store1_z T.zr_41 rfl rfl rfl rfl rfl k76 (D6.frozen _) ?_
    have D7 := D6.set 8 (.slice a6 (xs.length + 1) c6)
    have hw : IntKind.i64.wrap (((j + 1 : Nat) : Int) - 1) = (j : Int) := by rw [wrap_i64 (by omega) (by omega)]; omega
    simp (disch := first | omega | assumption) only [C.class_Read_gos, T.tv, ↓reduceIte, Nat.reduceEqDiff, reduceCtorEq, Nat.reduceLeDiff, Nat.reducePow, Int.reducePow, Int.reduceToNat, Nat.reduceAdd, hw]
    exact ⟨_, by omega, j, xs ++ [(methodR p l u).1], _, _, rfl, by simp; omega, rfl, D7, hL⟩
  have hR2 : R = (xs, u) := by
    rw [← hL]
    rcases Nat.eq_zero_or_pos m with h0 | h0
    · subst h0; rfl
    · exact loopS_bad (fun he => hgo ⟨h0, he⟩)
  rw [hR2] at hX'
  refine Or.elim (Classical.em (m = 0)) (fun h0 => ?ccG) (fun h0 => ?cdG)
  case' ccG =>
    have hz : ¬ (0 : Int) < (m : Int) := by omega
    simp (disch := first | omega | assumption) only [C.class_Read_gos, T.tv, ↓reduceIte, Nat.reduceEqDiff, reduceCtorEq, Nat.reduceLeDiff, Nat.reducePow, Int.reducePow, Int.reduceToNat, Nat.reduceAdd, hz]
  case' cdG =>
    have hz : (0 : Int) < (m : Int) := by omega
    simp (disch := first | omega | assumption) only [C.class_Read_gos, T.tv, ↓reduceIte, Nat.reduceEqDiff, reduceCtorEq, Nat.reduceLeDiff, Nat.reducePow, Int.reducePow, Int.reduceToNat, Nat.reduceAdd, hz, k0]
    refine eff_callF rfl ((bad_any ru).mono ?_)
    rintro _ hd ⟨e1, rfl⟩
    rw [e1]
    clear e1 hd
    have he' : (decide (u.e ≠ 0)) = true := decide_eq_true (fun he => hgo ⟨by omega, he⟩)
    simp (disch := first | omega | assumption) only [C.class_Read_gos, T.tv, ↓reduceIte, Nat.reduceEqDiff, reduceCtorEq, Nat.reduceLeDiff, Nat.reducePow, Int.reducePow, Int.reduceToNat, Nat.reduceAdd, he']
  all_goals
    exact read_t1 hl Dx hX'
set_option maxHeartbeats 4000000 in
theorem read_t3 (hl : l.length ≤ 1073741824) (D : RD h0 g gr rb l [.int .u16 (mi : Int), .int .u16 (ma : Int), .int .u16 (fl : Int), .int .u16 (th : Int), .int .u16 (su : Int), vp, vi, (.slice none 0 0), (.slice none 0 0)] p is [] [] vp vi (.slice none 0 0) (.slice none 0 0) t hx) (hX : tailF p l mi ma fl th su is t = X) :
    Cd.vc Try.prog C.class_Read_t3 (retQ Try.prog [(2, some 43), (3, none), (4, none)] (clsPost h0 X)) [(0, str l), (2, .pointer (some ⟨rb, 0, none⟩)), (3, .int .i64 0), (4, .int .i64 0), (5, .pointer (some ⟨g, 0, none⟩)), (6, .pointer (some ⟨g, 1, none⟩)), (7, x7), (116, x116)] hx := by
  rw [C.class_Read_t3_go]
  have k0 := D.b.k0
  simp (disch := first | omega | assumption) only [C.class_Read_gos, T.tv, ↓reduceIte, Nat.reduceEqDiff, reduceCtorEq, Nat.reduceLeDiff, Nat.reducePow, Int.reducePow, Int.reduceToNat, Nat.reduceAdd, k0]
  refine eff_callF rfl ((num_any 2 hl (by omega) D.r).mono ?_)
  rintro _ h1 ⟨f1, r1, rfl⟩
  have D1 := D.frR f1 r1
  have hk := @numS_lt l 2 t
  simp only [Nat.reducePow] at hk
  obtain ⟨K, hK⟩ : ∃ K, K = numS l 2 t := ⟨_, rfl⟩
  rw [← hK] at r1 hk D1 ⊢
  clear k0 D f1 r1
  obtain ⟨R, hRR⟩ : ∃ R, R = loopS (fieldR p l) K.1 [] K.2 := ⟨_, rfl⟩
  have hX' : tailM p l mi ma fl th su is R.1 R.2 = X := by rw [← hX, hRR, hK]; rfl
  clear hX
  simp (disch := first | omega | assumption) only [C.class_Read_gos, T.tv, ↓reduceIte, Nat.reduceEqDiff, reduceCtorEq, Nat.reduceLeDiff, Nat.reducePow, Int.reducePow, Int.reduceToNat, Nat.reduceAdd]
  refine loop_intro [0, 2, 3, 4, 5, 6, 8] (fun m ρ hc => ∃ (k : Nat) (xs : List Fld) (w : Value) (u : RS), m = k ∧ xs.length + k ≤ 65535 ∧ ρ = [(0, str l), (2, .pointer (some ⟨rb, 0, none⟩)), (3, .int .i64 0), (4, .int .i64 0), (5, .pointer (some ⟨g, 0, none⟩)), (6, .pointer (some ⟨g, 1, none⟩)), (8, .int .i64 k)] ∧
      RD h0 g gr rb l [.int .u16 (mi : Int), .int .u16 (ma : Int), .int .u16 (fl : Int), .int .u16 (th : Int), .int .u16 (su : Int), vp, vi, w, (.slice none 0 0)] p is xs [] vp vi w (.slice none 0 0) u hc ∧ loopS (fieldR p l) k xs u = R) ?_ ?_
  · simp (disch := first | omega | assumption) only [C.class_Read_gos, T.tv, ↓reduceIte, Nat.reduceEqDiff, reduceCtorEq, Nat.reduceLeDiff, Nat.reducePow, Int.reducePow, Int.reduceToNat, Nat.reduceAdd]
    exact ⟨_, K.1, [], _, K.2, rfl, by simp; omega, rfl, D1, hRR.symm⟩
  clear D1
  rintro m ρ hc ⟨k, xs, w, u, rfl, hkk, rfl, Dx, hL⟩
  have k0 := Dx.b.k0
  have ru := Dx.r
  refine Or.elim (Classical.em (0 < m ∧ u.e = 0)) (fun hgo => ?caG) (fun hgo => ?cbG)
  case caG =>
    obtain ⟨hpos, he⟩ := hgo
    obtain ⟨j, rfl⟩ : ∃ j, m = j + 1 := ⟨m - 1, by omega⟩
    have hpos' : (0 : Int) < ((j + 1 : Nat) : Int) := by omega
    have he' : (decide (u.e ≠ 0)) = false := by simp [he]
    rw [loopS, if_neg (by simp [he])] at hL
    simp (disch := first | omega | assumption) only [C.class_Read_gos, T.tv, ↓reduceIte, Nat.reduceEqDiff, reduceCtorEq, Nat.reduceLeDiff, Nat.reducePow, Int.reducePow, Int.reduceToNat, Nat.reduceAdd, hpos', k0]
    refine eff_callF rfl ((bad_any ru).mono ?_)
    rintro _ hd ⟨rfl, rfl⟩
    have k7 : cellAt hd ⟨g, 8, none⟩ = some w := by rw [show 8 = 7 + 1 from rfl, Dx.cell]; rfl
    simp (disch := first | omega | assumption) only [C.class_Read_gos, T.tv, ↓reduceIte, Nat.reduceEqDiff, reduceCtorEq, Nat.reduceLeDiff, Nat.reducePow, Int.reducePow, Int.reduceToNat, Nat.reduceAdd, he', k0, k7]
    refine eff_callF rfl ((field_any hl (Dx.cr rfl) ru).mono ?_)
    rintro _ h4 ⟨f4, r4, rfl⟩
    have D4 := Dx.frR f4 r4
    clear k0 k7 Dx f4 r4
    have k0 := D4.b.k0
    have k7 : cellAt h4 ⟨g, 8, none⟩ = some w := by rw [show 8 = 7 + 1 from rfl, D4.cell]; rfl
    have hx : (fieldR p l u).1.cells = [.int .u16 ((fieldR p l u).1.flags : Int), .int .u16 ((fieldR p l u).1.name : Int), .int .u16 ((fieldR p l u).1.type : Int), .int .u16 ((fieldR p l u).1.value : Int)] := rfl
    rw [hx]
    simp (disch := first | omega | assumption) only [C.class_Read_gos, T.tv, ↓reduceIte, Nat.reduceEqDiff, reduceCtorEq, Nat.reduceLeDiff, Nat.reducePow, Int.reducePow, Int.reduceToNat, Nat.reduceAdd, k0, k7]
    refine eff_lits T.slT_40 rfl rfl (by decide) ?_
    have ex : Ext h4 (h4.push (.cells (fieldR p l u).1.cells.toArray 89)) := Ext.push _ _
    have ba : (h4.push (.cells (fieldR p l u).1.cells.toArray 89))[h4.size]? = some (.cells (fieldR p l u).1.cells.toArray 89 (0, 0)) := by simp
    have D5 := D4.frR (FrR.ext ex) (D4.r.fr ex id)
    rw [hx] at ex ba D5
    simp (disch := first | omega | assumption) only [C.class_Read_gos, T.tv, ↓reduceIte, Nat.reduceEqDiff, reduceCtorEq, Nat.reduceLeDiff, Nat.reducePow, Int.reducePow, Int.reduceToNat, Nat.reduceAdd]
    refine ⟨by rw [show 8 = 7 + 1 from rfl, D5.cell]; rfl, ?_⟩
    generalize h4.push _ = z5 at *
    generalize h4.size = lb at *
    rw [← hx] at ba
    have hsl : SlN z5 4 (.slice (some ⟨lb, 0, none⟩) 1 1) 1 (fieldR p l u).1.cells := ⟨rfl, _, _, rfl, .inr ⟨lb, 0, rfl, Rd_block ba⟩⟩
    
    refine eff_append_slN (m := 1) (news := (fieldR p l u).1.cells) T.slT_40 rfl rfl D5.f hsl (fun w hw => one_F [(fieldR p l u).1] w (by simpa [flatF] using hw)) (by first | omega | (simp only; omega)) (by first | omega | (simp only; omega)) D5.x.size ?_
    intro v6 z6 own6 f6
    have D6 := D5.appF f6 (fs' := xs ++ [(fieldR p l u).1]) (Own_cast own6 (by simp) (by simp [flatF]))
    obtain ⟨a6, c6, rfl, _⟩ := own6.slN.2
    have k76 : cellAt z6 ⟨g, 8, none⟩ = some w := by rw [show 8 = 7 + 1 from rfl, D6.cell]; rfl
    simp (disch := first | omega | assumption) only [C.class_Read_gos, T.tv, ↓reduceIte, Nat.reduceEqDiff, reduceCtorEq, Nat.reduceLeDiff, Nat.reducePow, Int.reducePow, Int.reduceToNat, Nat.reduceAdd]
    refine eff_store1_z T.zr_40 rfl rfl rfl rfl rfl k76 (D6.frozen _) ?_
    have D7 := D6.set 7 (.slice a6 (xs.length + 1) c6)
    have hw : IntKind.i64.wrap (((j + 1 : Nat) : Int) - 1) = (j : Int) := by rw [wrap_i64 (by omega) (by omega)]; omega
    simp (disch := first | omega | assumption) only [C.class_Read_gos, T.tv, ↓reduceIte, Nat.reduceEqDiff, reduceCtorEq, Nat.reduceLeDiff, Nat.reducePow, Int.reducePow, Int.reduceToNat, Nat.reduceAdd, hw]
    exact ⟨_, by omega, j, xs ++ [(fieldR p l u).1], _, _, rfl, by simp; omega, rfl, D7, hL⟩
  have hR2 : R = (xs, u) := by
    rw [← hL]
    rcases Nat.eq_zero_or_pos m with h0 | h0
    · subst h0; rfl
    · exact loopS_bad (fun he => hgo ⟨h0, he⟩)
  rw [hR2] at hX'
  refine Or.elim (Classical.em (m = 0)) (fun h0 => ?ccG) (fun h0 => ?cdG)
  case' ccG =>
    have hz : ¬ (0 : Int) < (m : Int) := by omega
    simp (disch := first | omega | assumption) only [C.class_Read_gos, T.tv, ↓reduceIte, Nat.reduceEqDiff, reduceCtorEq, Nat.reduceLeDiff, Nat.reducePow, Int.reducePow, Int.reduceToNat, Nat.reduceAdd, hz]
  case' cdG =>
    have hz : (0 : Int) < (m : Int) := by omega
    simp (disch := first | omega | assumption) only [C.class_Read_gos, T.tv, ↓reduceIte, Nat.reduceEqDiff, reduceCtorEq, Nat.reduceLeDiff, Nat.reducePow, Int.reducePow, Int.reduceToNat, Nat.reduceAdd, hz, k0]
    refine eff_callF rfl ((bad_any ru).mono ?_)
    rintro _ hd ⟨e1, rfl⟩
    rw [e1]
    clear e1 hd
    have he' : (decide (u.e ≠ 0)) = true := decide_eq_true (fun he => hgo ⟨by omega, he⟩)
    simp (disch := first | omega | assumption) only [C.class_Read_gos, T.tv, ↓reduceIte, Nat.reduceEqDiff, reduceCtorEq, Nat.reduceLeDiff, Nat.reducePow, Int.reducePow, Int.reduceToNat, Nat.reduceAdd, he']
  all_goals
    exact read_t2 hl Dx hX'
set_option maxHeartbeats 4000000 in
theorem read_t4 (hl : l.length ≤ 1073741824) (D : RD h0 g gr rb l [.int .u16 (mi : Int), .int .u16 (ma : Int), .int .u16 (fl : Int), .int .u16 (th : Int), .int .u16 (su : Int), vp, (.slice none 0 0), (.slice none 0 0), (.slice none 0 0)] p [] [] [] vp (.slice none 0 0) (.slice none 0 0) (.slice none 0 0) t hx) (hX : tailI p l mi ma fl th su t = X) :
    Cd.vc Try.prog C.class_Read_t4 (retQ Try.prog [(2, some 43), (3, none), (4, none)] (clsPost h0 X)) [(0, str l), (2, .pointer (some ⟨rb, 0, none⟩)), (3, .int .i64 0), (4, .int .i64 0), (5, .pointer (some ⟨g, 0, none⟩)), (6, .pointer (some ⟨g, 1, none⟩)), (7, x7), (8, x8), (9, x9), (10, x10), (11, x11), (21, x21), (64, x64), (116, x116), (147, x147), (175, x175), (196, x196), (216, x216)] hx := by
  rw [C.class_Read_t4_go]
  have k0 := D.b.k0
  simp (disch := first | omega | assumption) only [C.class_Read_gos, T.tv, ↓reduceIte, Nat.reduceEqDiff, reduceCtorEq, Nat.reduceLeDiff, Nat.reducePow, Int.reducePow, Int.reduceToNat, Nat.reduceAdd, k0]
  refine eff_callF rfl ((num_any 2 hl (by omega) D.r).mono ?_)
  rintro _ h1 ⟨f1, r1, rfl⟩
  have D1 := D.frR f1 r1
  have hk := @numS_lt l 2 t
  simp only [Nat.reducePow] at hk
  obtain ⟨K, hK⟩ : ∃ K, K = numS l 2 t := ⟨_, rfl⟩
  rw [← hK] at r1 hk D1 ⊢
  clear k0 D f1 r1
  obtain ⟨R, hRR⟩ : ∃ R, R = loopS (numS l 2) K.1 [] K.2 := ⟨_, rfl⟩
  have hX' : tailF p l mi ma fl th su R.1 R.2 = X := by rw [← hX, hRR, hK]; rfl
  clear hX
  simp (disch := first | omega | assumption) only [C.class_Read_gos, T.tv, ↓reduceIte, Nat.reduceEqDiff, reduceCtorEq, Nat.reduceLeDiff, Nat.reducePow, Int.reducePow, Int.reduceToNat, Nat.reduceAdd]
  refine loop_intro [0, 2, 3, 4, 5, 6, 7] (fun m ρ hc => ∃ (k : Nat) (xs : List Nat) (w : Value) (u : RS), m = k ∧ xs.length + k ≤ 65535 ∧ ρ = [(0, str l), (2, .pointer (some ⟨rb, 0, none⟩)), (3, .int .i64 0), (4, .int .i64 0), (5, .pointer (some ⟨g, 0, none⟩)), (6, .pointer (some ⟨g, 1, none⟩)), (7, .int .i64 k)] ∧
      RD h0 g gr rb l [.int .u16 (mi : Int), .int .u16 (ma : Int), .int .u16 (fl : Int), .int .u16 (th : Int), .int .u16 (su : Int), vp, w, (.slice none 0 0), (.slice none 0 0)] p xs [] [] vp w (.slice none 0 0) (.slice none 0 0) u hc ∧ loopS (numS l 2) k xs u = R) ?_ ?_
  · simp (disch := first | omega | assumption) only [C.class_Read_gos, T.tv, ↓reduceIte, Nat.reduceEqDiff, reduceCtorEq, Nat.reduceLeDiff, Nat.reducePow, Int.reducePow, Int.reduceToNat, Nat.reduceAdd]
    exact ⟨_, K.1, [], _, K.2, rfl, by simp; omega, rfl, D1, hRR.symm⟩
  clear D1
  rintro m ρ hc ⟨k, xs, w, u, rfl, hkk, rfl, Dx, hL⟩
  have k0 := Dx.b.k0
  have ru := Dx.r
  refine Or.elim (Classical.em (0 < m ∧ u.e = 0)) (fun hgo => ?caG) (fun hgo => ?cbG)
  case caG =>
    obtain ⟨hpos, he⟩ := hgo
    obtain ⟨j, rfl⟩ : ∃ j, m = j + 1 := ⟨m - 1, by omega⟩
    have hpos' : (0 : Int) < ((j + 1 : Nat) : Int) := by omega
    have he' : (decide (u.e ≠ 0)) = false := by simp [he]
    rw [loopS, if_neg (by simp [he])] at hL
    simp (disch := first | omega | assumption) only [C.class_Read_gos, T.tv, ↓reduceIte, Nat.reduceEqDiff, reduceCtorEq, Nat.reduceLeDiff, Nat.reducePow, Int.reducePow, Int.reduceToNat, Nat.reduceAdd, hpos', k0]
    refine eff_callF rfl ((bad_any ru).mono ?_)
    rintro _ hd ⟨rfl, rfl⟩
    have k7 : cellAt hd ⟨g, 7, none⟩ = some w := by rw [show 7 = 6 + 1 from rfl, Dx.cell]; rfl
    simp (disch := first | omega | assumption) only [C.class_Read_gos, T.tv, ↓reduceIte, Nat.reduceEqDiff, reduceCtorEq, Nat.reduceLeDiff, Nat.reducePow, Int.reducePow, Int.reduceToNat, Nat.reduceAdd, he', k0, k7]
    refine eff_callF rfl ((index_any hl ru).mono ?_)
    rintro _ h4 ⟨f4, r4, rfl⟩
    have D4 := Dx.frR f4 r4
    clear k0 k7 Dx f4 r4
    have k0 := D4.b.k0
    have k7 : cellAt h4 ⟨g, 7, none⟩ = some w := by rw [show 7 = 6 + 1 from rfl, D4.cell]; rfl
    
    simp (disch := first | omega | assumption) only [C.class_Read_gos, T.tv, ↓reduceIte, Nat.reduceEqDiff, reduceCtorEq, Nat.reduceLeDiff, Nat.reducePow, Int.reducePow, Int.reduceToNat, Nat.reduceAdd, k0, k7]
    refine eff_lits T.slT_39 rfl rfl (by decide) ?_
    have ex : Ext h4 (h4.push (.cells [.int .u16 ((numS l 2 u).1 : Int)].toArray 38)) := Ext.push _ _
    have ba : (h4.push (.cells [.int .u16 ((numS l 2 u).1 : Int)].toArray 38))[h4.size]? = some (.cells [.int .u16 ((numS l 2 u).1 : Int)].toArray 38 (0, 0)) := by simp
    have D5 := D4.frR (FrR.ext ex) (D4.r.fr ex id)
    
    simp (disch := first | omega | assumption) only [C.class_Read_gos, T.tv, ↓reduceIte, Nat.reduceEqDiff, reduceCtorEq, Nat.reduceLeDiff, Nat.reducePow, Int.reducePow, Int.reduceToNat, Nat.reduceAdd]
    refine ⟨by rw [show 7 = 6 + 1 from rfl, D5.cell]; rfl, ?_⟩
    generalize h4.push _ = z5 at *
    generalize h4.size = lb at *
    
    have hsl : SlN z5 1 (.slice (some ⟨lb, 0, none⟩) 1 1) 1 [.int .u16 ((numS l 2 u).1 : Int)] := ⟨rfl, _, _, rfl, .inr ⟨lb, 0, rfl, Rd_block ba⟩⟩
    
    refine eff_append_slN (m := 1) (news := [.int .u16 ((numS l 2 u).1 : Int)]) T.slT_39 rfl rfl D5.i hsl (fun w hw => by simp at hw; subst hw; rfl) (by first | omega | (simp only; omega)) (by first | omega | (simp only; omega)) D5.x.size ?_
    intro v6 z6 own6 f6
    have D6 := D5.appI f6 (is' := xs ++ [(numS l 2 u).1]) (Own_cast own6 (by simp) (by simp [natV]))
    obtain ⟨a6, c6, rfl, _⟩ := own6.slN.2
    have k76 : cellAt z6 ⟨g, 7, none⟩ = some w := by rw [show 7 = 6 + 1 from rfl, D6.cell]; rfl
    simp (disch := first | omega | assumption) only [C.class_Read_gos, T.tv, ↓reduceIte, Nat.reduceEqDiff, reduceCtorEq, Nat.reduceLeDiff, Nat.reducePow, Int.reducePow, Int.reduceToNat, Nat.reduceAdd]
    refine eff_store1_z T.zr_39 rfl rfl rfl rfl rfl k76 (D6.frozen _) ?_
    have D7 := D6.set 6 (.slice a6 (xs.length + 1) c6)
    have hw : IntKind.i64.wrap (((j + 1 : Nat) : Int) - 1) = (j : Int) := by rw [wrap_i64 (by omega) (by omega)]; omega
    simp (disch := first | omega | assumption) only [C.class_Read_gos, T.tv, ↓reduceIte, Nat.reduceEqDiff, reduceCtorEq, Nat.reduceLeDiff, Nat.reducePow, Int.reducePow, Int.reduceToNat, Nat.reduceAdd, hw]
    exact ⟨_, by omega, j, xs ++ [(numS l 2 u).1], _, _, rfl, by simp; omega, rfl, D7, hL⟩
  have hR2 : R = (xs, u) := by
    rw [← hL]
    rcases Nat.eq_zero_or_pos m with h0 | h0
    · subst h0; rfl
    · exact loopS_bad (fun he => hgo ⟨h0, he⟩)
  rw [hR2] at hX'
  refine Or.elim (Classical.em (m = 0)) (fun h0 => ?ccG) (fun h0 => ?cdG)
  case' ccG =>
    have hz : ¬ (0 : Int) < (m : Int) := by omega
    simp (disch := first | omega | assumption) only [C.class_Read_gos, T.tv, ↓reduceIte, Nat.reduceEqDiff, reduceCtorEq, Nat.reduceLeDiff, Nat.reducePow, Int.reducePow, Int.reduceToNat, Nat.reduceAdd, hz]
  case' cdG =>
    have hz : (0 : Int) < (m : Int) := by omega
    simp (disch := first | omega | assumption) only [C.class_Read_gos, T.tv, ↓reduceIte, Nat.reduceEqDiff, reduceCtorEq, Nat.reduceLeDiff, Nat.reducePow, Int.reducePow, Int.reduceToNat, Nat.reduceAdd, hz, k0]
    refine eff_callF rfl ((bad_any ru).mono ?_)
    rintro _ hd ⟨e1, rfl⟩
    rw [e1]
    clear e1 hd
    have he' : (decide (u.e ≠ 0)) = true := decide_eq_true (fun he => hgo ⟨by omega, he⟩)
    simp (disch := first | omega | assumption) only [C.class_Read_gos, T.tv, ↓reduceIte, Nat.reduceEqDiff, reduceCtorEq, Nat.reduceLeDiff, Nat.reducePow, Int.reducePow, Int.reduceToNat, Nat.reduceAdd, he']
  all_goals
    exact read_t3 hl Dx hX'
set_option maxHeartbeats 4000000 in
theorem RD.withP {rc : List Value} {q : List Cst} {vq : Value} (D : RD h0 g gr rb l rc p is fs ms vp vi vf vm t hx) (O : Own hx h0.size 76 5 vq q.length (flatS q)) : RD h0 g gr rb l rc q is fs ms vq vi vf vm t hx :=
  ⟨D.b, D.r, O, D.i, D.f, D.m, D.x, D.z, D.g0, D.g1, D.g2, D.ne⟩
set_option maxHeartbeats 4000000 in
theorem read_t5 (hl : l.length ≤ 1073741824) (D : RD h0 g gr rb l [.int .u16 (mi : Int), .int .u16 (ma : Int), .int .u16 0, .int .u16 0, .int .u16 0, (.slice none 0 0), (.slice none 0 0), (.slice none 0 0), (.slice none 0 0)] [] [] [] [] (.slice none 0 0) (.slice none 0 0) (.slice none 0 0) (.slice none 0 0) t hx) (hX : finC (restR (poolR l t).1 l mi ma (poolR l t).2) = X) :
    Cd.vc Try.prog C.class_Read_t5 (retQ Try.prog [(2, some 43), (3, none), (4, none)] (clsPost h0 X)) [(0, str l), (2, .pointer (some ⟨rb, 0, none⟩)), (3, .int .i64 0), (4, .int .i64 0), (5, .pointer (some ⟨g, 0, none⟩)), (6, .pointer (some ⟨g, 1, none⟩)), (7, x7), (8, x8), (9, x9), (10, x10), (11, x11), (21, x21), (64, x64), (116, x116), (147, x147), (175, x175), (196, x196), (216, x216)] hx := by
  rw [C.class_Read_t5_go]
  have k0 := D.b.k0
  simp (disch := first | omega | assumption) only [C.class_Read_gos, T.tv, ↓reduceIte, Nat.reduceEqDiff, reduceCtorEq, Nat.reduceLeDiff, Nat.reducePow, Int.reducePow, Int.reduceToNat, Nat.reduceAdd, k0]
  refine eff_callF rfl ((pool_any hl D.r).mono ?_)
  rintro v h1 ⟨f1, own1, r1⟩
  have D1' := D.frR f1 r1
  have D1 := D1'.withP (own1.mono D.x.size)
  clear D1' D k0
  obtain ⟨P, hP⟩ : ∃ P, P = poolR l t := ⟨_, rfl⟩
  rw [← hP] at hX D1 r1
  obtain ⟨ap, cp, rfl, _⟩ := D1.p.slN.2
  have k5 : cellAt h1 ⟨g, 6, none⟩ = some (.slice none 0 0) := by rw [show 6 = 5 + 1 from rfl, D1.cell]; rfl
  simp (disch := first | omega | assumption) only [C.class_Read_gos, T.tv, ↓reduceIte, Nat.reduceEqDiff, reduceCtorEq, Nat.reduceLeDiff, Nat.reducePow, Int.reducePow, Int.reduceToNat, Nat.reduceAdd]
  refine eff_store1_z T.zr_22 rfl rfl rfl rfl rfl k5 (D1.frozen _) ?_
  have D2 := D1.set 5 (.slice ap P.1.length cp)
  clear k5 D1 f1 own1 r1
  generalize setAt h1 ⟨g, 5 + 1, none⟩ (.slice ap P.1.length cp) = h2 at *
  have D2 : RD h0 g gr rb l [.int .u16 (mi : Int), .int .u16 (ma : Int), .int .u16 0, .int .u16 0, .int .u16 0, (.slice ap P.1.length cp), (.slice none 0 0), (.slice none 0 0), (.slice none 0 0)] P.1 [] [] [] (.slice ap P.1.length cp) (.slice none 0 0) (.slice none 0 0) (.slice none 0 0) P.2 h2 := D2
  generalize Value.slice ap P.1.length cp = vp at *
  have k0 := D2.b.k0
  simp (disch := first | omega | assumption) only [C.class_Read_gos, T.tv, ↓reduceIte, Nat.reduceEqDiff, reduceCtorEq, Nat.reduceLeDiff, Nat.reducePow, Int.reducePow, Int.reduceToNat, Nat.reduceAdd, k0]
  refine eff_callF rfl ((index_any hl D2.r).mono ?_)
  rintro _ h3 ⟨f3, r3, rfl⟩
  have D3 := D2.frR f3 r3
  have k0 := D3.b.k0
  simp (disch := first | omega | assumption) only [C.class_Read_gos, T.tv, ↓reduceIte, Nat.reduceEqDiff, reduceCtorEq, Nat.reduceLeDiff, Nat.reducePow, Int.reducePow, Int.reduceToNat, Nat.reduceAdd, k0]
  refine eff_callF rfl ((index_any hl D3.r).mono ?_)
  rintro _ h4 ⟨f4, r4, rfl⟩
  have D4 := D3.frR f4 r4
  have k0 := D4.b.k0
  simp (disch := first | omega | assumption) only [C.class_Read_gos, T.tv, ↓reduceIte, Nat.reduceEqDiff, reduceCtorEq, Nat.reduceLeDiff, Nat.reducePow, Int.reducePow, Int.reduceToNat, Nat.reduceAdd, k0]
  refine eff_callF rfl ((index_any hl D4.r).mono ?_)
  rintro _ h5 ⟨f5, r5, rfl⟩
  have D5 := D4.frR f5 r5
  have k0 := D5.b.k0
  have e1 : cellAt h5 ⟨g, 3, none⟩ = some (.int .u16 0) := by rw [show 3 = 2 + 1 from rfl, D5.cell]; rfl
  simp (disch := first | omega | assumption) only [C.class_Read_gos, T.tv, ↓reduceIte, Nat.reduceEqDiff, reduceCtorEq, Nat.reduceLeDiff, Nat.reducePow, Int.reducePow, Int.reduceToNat, Nat.reduceAdd]
  refine eff_store1_z T.zr_38 rfl rfl rfl rfl rfl e1 (D5.frozen _) ?_
  have D6 := D5.set 2 (.int .u16 ((numS l 2 P.2).1 : Int))
  clear D5 e1 k0 D4 D3 D2 f3 f4 f5 r3 r4 r5
  generalize setAt h5 ⟨g, 2 + 1, none⟩ _ = h6 at *
  have e1 : cellAt h6 ⟨g, 4, none⟩ = some (.int .u16 0) := by rw [show 4 = 3 + 1 from rfl, D6.cell]; rfl
  simp (disch := first | omega | assumption) only [C.class_Read_gos, T.tv, ↓reduceIte, Nat.reduceEqDiff, reduceCtorEq, Nat.reduceLeDiff, Nat.reducePow, Int.reducePow, Int.reduceToNat, Nat.reduceAdd]
  refine eff_store1_z T.zr_38 rfl rfl rfl rfl rfl e1 (D6.frozen _) ?_
  have D7 := D6.set 3 (.int .u16 ((numS l 2 (numS l 2 P.2).2).1 : Int))
  clear D6 e1
  generalize setAt h6 ⟨g, 3 + 1, none⟩ _ = h7 at *
  have e1 : cellAt h7 ⟨g, 5, none⟩ = some (.int .u16 0) := by rw [show 5 = 4 + 1 from rfl, D7.cell]; rfl
  simp (disch := first | omega | assumption) only [C.class_Read_gos, T.tv, ↓reduceIte, Nat.reduceEqDiff, reduceCtorEq, Nat.reduceLeDiff, Nat.reducePow, Int.reducePow, Int.reduceToNat, Nat.reduceAdd]
  refine eff_store1_z T.zr_38 rfl rfl rfl rfl rfl e1 (D7.frozen _) ?_
  have D8 := D7.set 4 (.int .u16 ((numS l 2 (numS l 2 (numS l 2 P.2).2).2).1 : Int))
  simp (disch := first | omega | assumption) only [C.class_Read_gos, T.tv, ↓reduceIte, Nat.reduceEqDiff, reduceCtorEq, Nat.reduceLeDiff, Nat.reducePow, Int.reducePow, Int.reduceToNat, Nat.reduceAdd]
  exact read_t4 hl D8 ((tailI_rest P.1 l mi ma P.2).trans hX)
set_option maxHeartbeats 4000000 in
theorem read_t6 (hl : l.length ≤ 1073741824) (D : RD h0 g gr rb l [.int .u16 0, .int .u16 0, .int .u16 0, .int .u16 0, .int .u16 0, (.slice none 0 0), (.slice none 0 0), (.slice none 0 0), (.slice none 0 0)] [] [] [] [] (.slice none 0 0) (.slice none 0 0) (.slice none 0 0) (.slice none 0 0) t hx) (a b : Nat) (s2 : RS) (ha : a = (numS l 2 t).1) (hb : b = (numS l 2 (numS l 2 t).2).1)
    (hs : s2 = if (b = 50 ∨ b = 51) ∧ a = 0 then (numS l 2 (numS l 2 t).2).2 else failS 4 4 (numS l 2 (numS l 2 t).2).2) (hX : finC (restR (poolR l s2).1 l a b (poolR l s2).2) = X) :
    Cd.vc Try.prog C.class_Read_t6 (retQ Try.prog [(2, some 43), (3, none), (4, none)] (clsPost h0 X)) [(0, str l), (2, .pointer (some ⟨rb, 0, none⟩)), (3, .int .i64 0), (4, .int .i64 0), (5, .pointer (some ⟨g, 0, none⟩)), (6, x6), (7, x7), (8, x8), (9, x9), (10, x10), (11, x11), (21, x21), (64, x64), (116, x116), (147, x147), (175, x175), (196, x196), (216, x216)] hx := by
  rw [C.class_Read_t6_go]
  have k0 := D.b.k0
  simp (disch := first | omega | assumption) only [C.class_Read_gos, T.tv, ↓reduceIte, Nat.reduceEqDiff, reduceCtorEq, Nat.reduceLeDiff, Nat.reducePow, Int.reducePow, Int.reduceToNat, Nat.reduceAdd, k0]
  refine eff_callF rfl ((index_any hl D.r).mono ?_)
  rintro _ h3 ⟨f3, r3, rfl⟩
  have D3 := D.frR f3 r3
  have k0 := D3.b.k0
  simp (disch := first | omega | assumption) only [C.class_Read_gos, T.tv, ↓reduceIte, Nat.reduceEqDiff, reduceCtorEq, Nat.reduceLeDiff, Nat.reducePow, Int.reducePow, Int.reduceToNat, Nat.reduceAdd, k0]
  refine eff_callF rfl ((index_any hl D3.r).mono ?_)
  rintro _ h4 ⟨f4, r4, rfl⟩
  have D4 := D3.frR f4 r4
  have k0 := D4.b.k0
  have e1 : cellAt h4 ⟨g, 1, none⟩ = some (.int .u16 0) := by rw [show 1 = 0 + 1 from rfl, D4.cell]; rfl
  rw [← ha, ← hb]
  simp (disch := first | omega | assumption) only [C.class_Read_gos, T.tv, ↓reduceIte, Nat.reduceEqDiff, reduceCtorEq, Nat.reduceLeDiff, Nat.reducePow, Int.reducePow, Int.reduceToNat, Nat.reduceAdd]
  refine eff_store1_z T.zr_38 rfl rfl rfl rfl rfl e1 (D4.frozen _) ?_
  have D6 := D4.set 0 (.int .u16 (a : Int))
  clear D4 e1 k0 D3 f3 f4 r3 r4 D
  generalize setAt h4 ⟨g, 0 + 1, none⟩ _ = h6 at *
  have e1 : cellAt h6 ⟨g, 2, none⟩ = some (.int .u16 0) := by rw [show 2 = 1 + 1 from rfl, D6.cell]; rfl
  simp (disch := first | omega | assumption) only [C.class_Read_gos, T.tv, ↓reduceIte, Nat.reduceEqDiff, reduceCtorEq, Nat.reduceLeDiff, Nat.reducePow, Int.reducePow, Int.reduceToNat, Nat.reduceAdd]
  refine eff_store1_z T.zr_38 rfl rfl rfl rfl rfl e1 (D6.frozen _) ?_
  have D7 := D6.set 1 (.int .u16 (b : Int))
  clear D6 e1
  generalize setAt h6 ⟨g, 1 + 1, none⟩ _ = h7 at *
  have c1 : cellAt h7 ⟨g, 1, none⟩ = some (.int .u16 (a : Int)) := by rw [show 1 = 0 + 1 from rfl, D7.cell]; rfl
  have c2 : cellAt h7 ⟨g, 2, none⟩ = some (.int .u16 (b : Int)) := by rw [show 2 = 1 + 1 from rfl, D7.cell]; rfl
  have k0 := D7.b.k0
  by_cases h50 : b = 50
  · have i50 : (b : Int) = 50 := by omega
    by_cases h0 : a = 0
    · have i0 : (a : Int) = 0 := by omega
      rw [if_pos ⟨.inl h50, h0⟩] at hs
      subst hs
      simp (disch := first | omega | assumption) only [C.class_Read_gos, T.tv, ↓reduceIte, Nat.reduceEqDiff, reduceCtorEq, Nat.reduceLeDiff, Nat.reducePow, Int.reducePow, Int.reduceToNat, Nat.reduceAdd, k0, c1, c2, eq_true i50, eq_true i0]
      exact read_t5 hl D7 hX
    · have i0 : ¬ (a : Int) = 0 := by omega
      rw [if_neg (fun hh => h0 hh.2)] at hs
      subst hs
      simp (disch := first | omega | assumption) only [C.class_Read_gos, T.tv, ↓reduceIte, Nat.reduceEqDiff, reduceCtorEq, Nat.reduceLeDiff, Nat.reducePow, Int.reducePow, Int.reduceToNat, Nat.reduceAdd, k0, c1, c2, eq_true i50, eq_false i0]
      refine eff_callF rfl ((fail_any 4 4 D7.r).mono ?_)
      rintro _ h8 ⟨f8, r8⟩
      have D8 := D7.frR f8 r8
      simp (disch := first | omega | assumption) only [C.class_Read_gos, T.tv, ↓reduceIte, Nat.reduceEqDiff, reduceCtorEq, Nat.reduceLeDiff, Nat.reducePow, Int.reducePow, Int.reduceToNat, Nat.reduceAdd]
      exact read_t5 hl D8 hX
  · have i50 : ¬ (b : Int) = 50 := by omega
    by_cases h51 : b = 51
    · have i51 : (b : Int) = 51 := by omega
      by_cases h0 : a = 0
      · have i0 : (a : Int) = 0 := by omega
        rw [if_pos ⟨.inr h51, h0⟩] at hs
        subst hs
        simp (disch := first | omega | assumption) only [C.class_Read_gos, T.tv, ↓reduceIte, Nat.reduceEqDiff, reduceCtorEq, Nat.reduceLeDiff, Nat.reducePow, Int.reducePow, Int.reduceToNat, Nat.reduceAdd, k0, c1, c2, eq_false i50, eq_true i51, eq_true i0]
        exact read_t5 hl D7 hX
      · have i0 : ¬ (a : Int) = 0 := by omega
        rw [if_neg (fun hh => h0 hh.2)] at hs
        subst hs
        simp (disch := first | omega | assumption) only [C.class_Read_gos, T.tv, ↓reduceIte, Nat.reduceEqDiff, reduceCtorEq, Nat.reduceLeDiff, Nat.reducePow, Int.reducePow, Int.reduceToNat, Nat.reduceAdd, k0, c1, c2, eq_false i50, eq_true i51, eq_false i0]
        refine eff_callF rfl ((fail_any 4 4 D7.r).mono ?_)
        rintro _ h8 ⟨f8, r8⟩
        have D8 := D7.frR f8 r8
        simp (disch := first | omega | assumption) only [C.class_Read_gos, T.tv, ↓reduceIte, Nat.reduceEqDiff, reduceCtorEq, Nat.reduceLeDiff, Nat.reducePow, Int.reducePow, Int.reduceToNat, Nat.reduceAdd]
        exact read_t5 hl D8 hX
    · have i51 : ¬ (b : Int) = 51 := by omega
      rw [if_neg (fun hh => hh.1.elim h50 h51)] at hs
      subst hs
      simp (disch := first | omega | assumption) only [C.class_Read_gos, T.tv, ↓reduceIte, Nat.reduceEqDiff, reduceCtorEq, Nat.reduceLeDiff, Nat.reducePow, Int.reducePow, Int.reduceToNat, Nat.reduceAdd, k0, c1, c2, eq_false i50, eq_false i51]
      refine eff_callF rfl ((fail_any 4 4 D7.r).mono ?_)
      rintro _ h8 ⟨f8, r8⟩
      have D8 := D7.frR f8 r8
      simp (disch := first | omega | assumption) only [C.class_Read_gos, T.tv, ↓reduceIte, Nat.reduceEqDiff, reduceCtorEq, Nat.reduceLeDiff, Nat.reducePow, Int.reducePow, Int.reduceToNat, Nat.reduceAdd]
      exact read_t5 hl D8 hX
set_option maxHeartbeats 4000000 in
theorem read_any (l : List UInt8) (h : Heap) (hl : l.length ≤ 1073741824) : HCalls Try.prog 19 #[str l] h (clsPost h (readR l)) := by
  refine C.class_Read_calls (args := [str l]) rfl ?_
  simp (disch := first | omega | assumption) only [C.class_Read_gos, T.tv, ↓reduceIte, Nat.reduceEqDiff, reduceCtorEq, Nat.reduceLeDiff, Nat.reducePow, Int.reducePow, Int.reduceToNat, Nat.reduceAdd]
  refine eff_alloc_z T.zr_43 ?_
  have e1 : Ext h (h.push (.cells clsZ 43)) := Ext.push _ _
  have b1 : (h.push (.cells clsZ 43))[h.size]? = some (.cells clsZ 43 (0, 0)) := by simp
  simp (disch := first | omega | assumption) only [C.class_Read_gos, T.tv, ↓reduceIte, Nat.reduceEqDiff, reduceCtorEq, Nat.reduceLeDiff, Nat.reducePow, Int.reducePow, Int.reduceToNat, Nat.reduceAdd]
  change eff _ _ _ _ _ (h.push (.cells clsZ 43)) _
  generalize h.push (.cells clsZ 43) = h1 at *
  refine eff_callF rfl ((newReader_any l h1).mono ?_)
  rintro _ h2 ⟨e2, rfl, r2, hlt⟩
  have b2 := Fr_blk e2 b1 id
  have hs1 := e1.size
  have hb1 := (Array.getElem?_eq_some_iff.1 b1).1
  generalize h1.size = gr at *
  simp (disch := first | omega | assumption) only [C.class_Read_gos, T.tv, ↓reduceIte, Nat.reduceEqDiff, reduceCtorEq, Nat.reduceLeDiff, Nat.reducePow, Int.reducePow, Int.reduceToNat, Nat.reduceAdd]
  refine eff_box ?_
  have e3 : Ext h2 (h2.push (.cells (Value.pointer (some ⟨gr, 0, none⟩) :: [.int .u16 0, .int .u16 0, .int .u16 0, .int .u16 0, .int .u16 0, (.slice none 0 0), (.slice none 0 0), (.slice none 0 0), (.slice none 0 0)]).toArray 102)) := Ext.push _ _
  have b3 : (h2.push (.cells (Value.pointer (some ⟨gr, 0, none⟩) :: [.int .u16 0, .int .u16 0, .int .u16 0, .int .u16 0, .int .u16 0, (.slice none 0 0), (.slice none 0 0), (.slice none 0 0), (.slice none 0 0)]).toArray 102))[h2.size]? = some (.cells (Value.pointer (some ⟨gr, 0, none⟩) :: [.int .u16 0, .int .u16 0, .int .u16 0, .int .u16 0, .int .u16 0, (.slice none 0 0), (.slice none 0 0), (.slice none 0 0), (.slice none 0 0)]).toArray 102 (0, 0)) := by simp
  simp (disch := first | omega | assumption) only [C.class_Read_gos, T.tv, ↓reduceIte, Nat.reduceEqDiff, reduceCtorEq, Nat.reduceLeDiff, Nat.reducePow, Int.reducePow, Int.reduceToNat, Nat.reduceAdd]
  have D0 : RD h h2.size gr h.size l [.int .u16 0, .int .u16 0, .int .u16 0, .int .u16 0, .int .u16 0, (.slice none 0 0), (.slice none 0 0), (.slice none 0 0), (.slice none 0 0)] [] [] [] [] (.slice none 0 0) (.slice none 0 0) (.slice none 0 0) (.slice none 0 0) ⟨0, 0, 0⟩ (h2.push (.cells (Value.pointer (some ⟨gr, 0, none⟩) :: [.int .u16 0, .int .u16 0, .int .u16 0, .int .u16 0, .int .u16 0, (.slice none 0 0), (.slice none 0 0), (.slice none 0 0), (.slice none 0 0)]).toArray 102)) :=
    ⟨b3, r2.fr e3 id, Own.nil, Own.nil, Own.nil, ⟨[], rfl, Own.nil, fun j hj => absurd hj (Nat.not_lt_zero j)⟩, (e1.trans e2).trans e3, Fr_blk e3 b2 id, by have := e2.size; omega, by omega, Nat.le_refl _, by omega⟩
  generalize h2.push (.cells (Value.pointer (some ⟨gr, 0, none⟩) :: [.int .u16 0, .int .u16 0, .int .u16 0, .int .u16 0, .int .u16 0, (.slice none 0 0), (.slice none 0 0), (.slice none 0 0), (.slice none 0 0)]).toArray 102) = h3 at *
  clear b1 b2 b3 e1 e2 e3 r2
  generalize h2.size = g at *
  have k0 := D0.b.k0
  simp (disch := first | omega | assumption) only [C.class_Read_gos, T.tv, ↓reduceIte, Nat.reduceEqDiff, reduceCtorEq, Nat.reduceLeDiff, Nat.reducePow, Int.reducePow, Int.reduceToNat, Nat.reduceAdd, k0]
  refine eff_callF rfl ((num_any 4 hl (by omega) D0.r).mono ?_)
  rintro _ h4 ⟨f4, r4, rfl⟩
  have D4 := D0.frR f4 r4
  have k0 := D4.b.k0
  by_cases hm : (numS l 4 ⟨0, 0, 0⟩).1 = 3405691582
  · have hm' : ((numS l 4 ⟨0, 0, 0⟩).1 : Int) = 3405691582 := by omega
    simp (disch := first | omega | assumption) only [C.class_Read_gos, T.tv, ↓reduceIte, Nat.reduceEqDiff, reduceCtorEq, Nat.reduceLeDiff, Nat.reducePow, Int.reducePow, Int.reduceToNat, Nat.reduceAdd, eq_true hm']
    refine read_t6 hl D4 _ _ _ rfl rfl rfl ?_
    unfold readR preR
    simp only [if_pos hm]
  · have hm' : ¬ ((numS l 4 ⟨0, 0, 0⟩).1 : Int) = 3405691582 := by omega
    simp (disch := first | omega | assumption) only [C.class_Read_gos, T.tv, ↓reduceIte, Nat.reduceEqDiff, reduceCtorEq, Nat.reduceLeDiff, Nat.reducePow, Int.reducePow, Int.reduceToNat, Nat.reduceAdd, eq_false hm', k0]
    refine eff_callF rfl ((fail_any 3 0 D4.r).mono ?_)
    rintro _ h5 ⟨f5, r5⟩
    simp (disch := first | omega | assumption) only [C.class_Read_gos, T.tv, ↓reduceIte, Nat.reduceEqDiff, reduceCtorEq, Nat.reduceLeDiff, Nat.reducePow, Int.reducePow, Int.reduceToNat, Nat.reduceAdd]
    refine read_t6 hl (D4.frR f5 r5) _ _ _ rfl rfl rfl ?_
    unfold readR preR
    simp only [if_neg hm]
end
end Go.Proofs.Ytohkbpnblkkdgaa

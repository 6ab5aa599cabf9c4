/- ReadClass of the reference: its beginning. -/
import Derived.Test.YtohkbpnblkkdgaaLT5
namespace Go.Proofs.Ytohkbpnblkkdgaa
open Go.Vc
set_option maxRecDepth 100000
set_option linter.unusedSimpArgs false
set_option linter.unusedVariables false

section
variable {h0 hx : Heap} {g gc cb rb mi ma fl th su : Nat} {l : List UInt8} {p : List Cst} {vp x6 x7 x8 x9 x10 x11 x12 x13 x14 x16 x17 x28 x53 x66 x83 x141 x167 x193 x219 x241 x261 : Value} {t : RS} {X : Cls × Nat × Nat}
set_option maxHeartbeats 8000000 in
theorem rread_t6 (hl : l.length ≤ 1073741824) (D : RE h0 g gc cb rb l [.int .u16 (mi : Int), .int .u16 (ma : Int), .int .u16 0, .int .u16 0, .int .u16 0, vp, (.slice none 0 0), (.slice none 0 0), (.slice none 0 0)] p [] [] [] vp (.slice none 0 0) (.slice none 0 0) (.slice none 0 0) t hx) (hX : finC (restR p l mi ma t) = X) :
    Cd.vc Try.prog C.ref3_ReadClass_t6 (retQ Try.prog [(2, some 43), (3, none), (4, none)] (clsPost h0 X)) [(0, str l), (2, .pointer (some ⟨rb, 0, none⟩)), (3, .int .i64 0), (4, .int .i64 0), (5, .pointer (some ⟨g, 0, none⟩)), (6, .pointer (some ⟨cb, 0, none⟩)), (7, x7), (8, x8), (9, x9), (10, x10), (11, x11), (12, x12), (13, x13), (14, x14), (16, x16), (17, x17), (28, x28), (53, x53), (66, x66), (83, x83), (141, x141), (167, x167), (193, x193), (219, x219), (241, x241), (261, x261)] hx := by
  rw [C.ref3_ReadClass_t6_go]
  simp (disch := first | omega | assumption) only [C.ref3_ReadClass_gos, vs, Go.Vc.vk, T.ts, ↓reduceIte, Nat.reduceEqDiff, reduceCtorEq, Nat.reduceLeDiff, Nat.reducePow, Int.reducePow, Int.reduceToNat, Nat.reduceAdd]
  refine eff_call_of ?_
  simp (disch := first | omega | assumption) only [C.ref3_ReadClass_gos, vs, Go.Vc.vk, T.ts, ↓reduceIte, Nat.reduceEqDiff, reduceCtorEq, Nat.reduceLeDiff, Nat.reducePow, Int.reducePow, Int.reduceToNat, Nat.reduceAdd]
  refine (rindex_any hl D.rg).mono ?_
  rintro _ y3 ⟨f3, r3, rfl⟩
  have E3 := D.frR f3 r3
  have kc : cellAt y3 ⟨cb, 2, none⟩ = some (.int .u16 0) := by rw [E3.cell]; rfl
  simp (disch := first | omega | assumption) only [C.ref3_ReadClass_gos, vs, Go.Vc.vk, T.ts, ↓reduceIte, Nat.reduceEqDiff, reduceCtorEq, Nat.reduceLeDiff, Nat.reducePow, Int.reducePow, Int.reduceToNat, Nat.reduceAdd]
  refine eff_store1_z T.zr_38 rfl rfl rfl rfl rfl kc (E3.frozen _) ?_
  have D3 := E3.set 2 (.int .u16 ((numS l 2 t).1 : Int))
  clear E3 kc f3 r3 D
  generalize setAt y3 ⟨cb, 2, none⟩ _ = h3 at *
  simp (disch := first | omega | assumption) only [C.ref3_ReadClass_gos, vs, Go.Vc.vk, T.ts, ↓reduceIte, Nat.reduceEqDiff, reduceCtorEq, Nat.reduceLeDiff, Nat.reducePow, Int.reducePow, Int.reduceToNat, Nat.reduceAdd]
  refine eff_call_of ?_
  simp (disch := first | omega | assumption) only [C.ref3_ReadClass_gos, vs, Go.Vc.vk, T.ts, ↓reduceIte, Nat.reduceEqDiff, reduceCtorEq, Nat.reduceLeDiff, Nat.reducePow, Int.reducePow, Int.reduceToNat, Nat.reduceAdd]
  refine (rindex_any hl D3.rg).mono ?_
  rintro _ y4 ⟨f4, r4, rfl⟩
  have E4 := D3.frR f4 r4
  have kc : cellAt y4 ⟨cb, 3, none⟩ = some (.int .u16 0) := by rw [E4.cell]; rfl
  simp (disch := first | omega | assumption) only [C.ref3_ReadClass_gos, vs, Go.Vc.vk, T.ts, ↓reduceIte, Nat.reduceEqDiff, reduceCtorEq, Nat.reduceLeDiff, Nat.reducePow, Int.reducePow, Int.reduceToNat, Nat.reduceAdd]
  refine eff_store1_z T.zr_38 rfl rfl rfl rfl rfl kc (E4.frozen _) ?_
  have D4 := E4.set 3 (.int .u16 ((numS l 2 (numS l 2 t).2).1 : Int))
  clear E4 kc f4 r4 D3
  generalize setAt y4 ⟨cb, 3, none⟩ _ = h4 at *
  simp (disch := first | omega | assumption) only [C.ref3_ReadClass_gos, vs, Go.Vc.vk, T.ts, ↓reduceIte, Nat.reduceEqDiff, reduceCtorEq, Nat.reduceLeDiff, Nat.reducePow, Int.reducePow, Int.reduceToNat, Nat.reduceAdd]
  refine eff_call_of ?_
  simp (disch := first | omega | assumption) only [C.ref3_ReadClass_gos, vs, Go.Vc.vk, T.ts, ↓reduceIte, Nat.reduceEqDiff, reduceCtorEq, Nat.reduceLeDiff, Nat.reducePow, Int.reducePow, Int.reduceToNat, Nat.reduceAdd]
  refine (rindex_any hl D4.rg).mono ?_
  rintro _ y5 ⟨f5, r5, rfl⟩
  have E5 := D4.frR f5 r5
  have kc : cellAt y5 ⟨cb, 4, none⟩ = some (.int .u16 0) := by rw [E5.cell]; rfl
  simp (disch := first | omega | assumption) only [C.ref3_ReadClass_gos, vs, Go.Vc.vk, T.ts, ↓reduceIte, Nat.reduceEqDiff, reduceCtorEq, Nat.reduceLeDiff, Nat.reducePow, Int.reducePow, Int.reduceToNat, Nat.reduceAdd]
  refine eff_store1_z T.zr_38 rfl rfl rfl rfl rfl kc (E5.frozen _) ?_
  have D5 := E5.set 4 (.int .u16 ((numS l 2 (numS l 2 (numS l 2 t).2).2).1 : Int))
  clear E5 kc f5 r5 D4
  generalize setAt y5 ⟨cb, 4, none⟩ _ = h5 at *
  simp (disch := first | omega | assumption) only [C.ref3_ReadClass_gos, vs, Go.Vc.vk, T.ts, ↓reduceIte, Nat.reduceEqDiff, reduceCtorEq, Nat.reduceLeDiff, Nat.reducePow, Int.reducePow, Int.reduceToNat, Nat.reduceAdd]
  exact rread_t5 hl D5 ((tailI_rest p l mi ma t).trans hX)
theorem RE.setQ {rc : List Value} {is : List Nat} {fs : List Fld} {ms : List Mth} {vi vf vm vq : Value} {q : List Cst} (D : RE h0 g gc cb rb l rc p is fs ms vp vi vf vm t hx) (O : Own hx h0.size 76 5 vq q.length (flatS q)) : RE h0 g gc cb rb l rc q is fs ms vq vi vf vm t (setAt hx ⟨g, 1, none⟩ vq) := by
  have f : Fr (fun b => b = g) hx (setAt hx ⟨g, 1, none⟩ vq) := Fr.set (S := fun b => b = g) _ _ _ fun _ => rfl
  have hS : ∀ b, b < hx.size → b = g → ∃ cs fz, hx[b]? = some (.cells cs 112 fz) := fun b _ hk => ⟨_, _, hk ▸ D.q⟩
  have b1 := setAt_get (o := 1) D.q vq
  obtain ⟨rows, hm⟩ := D.m
  exact ⟨blk_keep D.b f hS (by decide), by rw [b1]; simp, ⟨blk_keep D.r.1 f hS (by decide), D.r.2⟩, own_keep O f hS (by decide), own_keep D.i f hS (by decide), own_keep D.f f hS (by decide), ⟨rows, hm.keep f hS (by decide) (by decide)⟩,
    D.extS f (fun b _ hk => by have := D.g0; omega), blk_keep D.z f hS (by decide), D.g0, D.g1, D.g2, D.g3, D.ne⟩
set_option maxHeartbeats 8000000 in
theorem rread_t7 (hl : l.length ≤ 1073741824) (D : RE h0 g gc cb rb l [.int .u16 (mi : Int), .int .u16 (ma : Int), .int .u16 0, .int .u16 0, .int .u16 0, (.slice none 0 0), (.slice none 0 0), (.slice none 0 0), (.slice none 0 0)] [] [] [] [] (.slice none 0 0) (.slice none 0 0) (.slice none 0 0) (.slice none 0 0) t hx) (hX : finC (restR (poolQ l t).1 l mi ma (poolQ l t).2) = X) :
    Cd.vc Try.prog C.ref3_ReadClass_t7 (retQ Try.prog [(2, some 43), (3, none), (4, none)] (clsPost h0 X)) [(0, str l), (2, .pointer (some ⟨rb, 0, none⟩)), (3, .int .i64 0), (4, .int .i64 0), (5, .pointer (some ⟨g, 0, none⟩)), (6, .pointer (some ⟨cb, 0, none⟩)), (7, x7), (8, x8), (9, x9), (10, x10), (11, x11), (12, x12), (13, x13), (14, x14), (16, x16), (17, x17), (28, x28), (53, x53), (66, x66), (83, x83), (141, x141), (167, x167), (193, x193), (219, x219), (241, x241), (261, x261)] hx := by
  rw [C.ref3_ReadClass_t7_go]
  have k0 := D.k0
  have c2 := D.r.c2
  have c1 := D.r.c1
  have hp := D.r.2
  by_cases he : t.e = 0
  case neg =>
    have he' : ¬ (t.e : Int) = 0 := by omega
    have hq : poolQ l t = ([], t) := by unfold poolQ; rw [if_pos he]
    rw [hq] at hX
    simp (disch := first | omega | assumption) only [C.ref3_ReadClass_gos, vs, Go.Vc.vk, T.ts, ↓reduceIte, Nat.reduceEqDiff, reduceCtorEq, Nat.reduceLeDiff, Nat.reducePow, Int.reducePow, Int.reduceToNat, Nat.reduceAdd, k0, c2, eq_false he']
    exact rread_t6 hl D hX
  case pos =>
    have he' : (t.e : Int) = 0 := by omega
    have hT : ((t.p : Nat) : Int).toNat = t.p := by omega
    obtain ⟨Q, hQ⟩ : ∃ Q, Q = refRead (l.drop t.p) := ⟨_, rfl⟩
    have hok := refRead_ok (l.drop t.p)
    have hp0 := refRead_p (l.drop t.p)
    rw [← hQ, List.length_drop] at hok
    rw [← hQ] at hp0
    have hq : poolQ l t = (Q.1, ⟨(if Q.2.2.1 = 0 then t else failS Q.2.2.1 (t.p + Q.2.2.2) t).p + Q.2.1, (if Q.2.2.1 = 0 then t else failS Q.2.2.1 (t.p + Q.2.2.2) t).e, (if Q.2.2.1 = 0 then t else failS Q.2.2.1 (t.p + Q.2.2.2) t).es⟩) := by unfold poolQ; rw [if_neg (by simp [he]), ← hQ]
    rw [hq] at hX
    have htake : (l.drop t.p).take (l.length - t.p) = l.drop t.p := List.take_of_length_le (by simp)
    simp (disch := first | omega | assumption) only [C.ref3_ReadClass_gos, vs, Go.Vc.vk, T.ts, ↓reduceIte, Nat.reduceEqDiff, reduceCtorEq, Nat.reduceLeDiff, Nat.reducePow, Int.reducePow, Int.reduceToNat, Nat.reduceAdd, k0, c1, c2, eq_true he']
    refine eff_call_of ?_
    simp (disch := first | omega | assumption) only [C.ref3_ReadClass_gos, vs, Go.Vc.vk, T.ts, ↓reduceIte, Nat.reduceEqDiff, reduceCtorEq, Nat.reduceLeDiff, Nat.reducePow, Int.reducePow, Int.reduceToNat, Nat.reduceAdd]
    refine (rread_any (l.drop t.p) hx (by simp; omega)).mono ?_
    rintro _ h1 ⟨x1, sv, rfl, own1⟩
    rw [← hQ] at own1 ⊢
    have D1 := D.frR (FrR.ext x1) (D.r.fr x1 id)
    have own1h := own1.mono D.x.size
    obtain ⟨aP, cP, rfl, _⟩ := own1.slN.2
    clear own1 x1 k0 c1 c2 D hq
    have k0 := D1.k0
    have c1 := D1.r.c1
    refine Or.elim (Classical.em (Q.2.2.1 = 0)) (fun hQe => ?caG) (fun hQe => ?cbG)
    case' caG =>
      have hQ' : (Q.2.2.1 : Int) = 0 := by omega
      simp only [if_pos hQe] at hX
      simp (disch := first | omega | assumption) only [C.ref3_ReadClass_gos, vs, Go.Vc.vk, T.ts, ↓reduceIte, Nat.reduceEqDiff, reduceCtorEq, Nat.reduceLeDiff, Nat.reducePow, Int.reducePow, Int.reduceToNat, Nat.reduceAdd, eq_true hQ']
      obtain ⟨t2, ht2⟩ : ∃ t2, t2 = t := ⟨_, rfl⟩
      have D2 : RE h0 g gc cb rb l [.int .u16 (mi : Int), .int .u16 (ma : Int), .int .u16 0, .int .u16 0, .int .u16 0, (.slice none 0 0), (.slice none 0 0), (.slice none 0 0), (.slice none 0 0)] [] [] [] [] (.slice none 0 0) (.slice none 0 0) (.slice none 0 0) (.slice none 0 0) t2 h1 := by rw [ht2]; exact D1
      rw [← ht2] at hX
      have ht2p : t2.p = t.p := by rw [ht2]
      have own2 := own1h
      obtain ⟨h2, hh2⟩ : ∃ x, x = h1 := ⟨_, rfl⟩
      rw [← hh2] at D2 own2 ⊢
      clear hh2 ht2
    case' cbG =>
      have hQ' : ¬ (Q.2.2.1 : Int) = 0 := by omega
      simp only [if_neg hQe] at hX
      have hwe : IntKind.i64.wrap ((t.p : Int) + (Q.2.2.2 : Int)) = ((t.p + Q.2.2.2 : Nat) : Int) := by rw [wrap_i64 (by omega) (by omega)]; omega
      simp (disch := first | omega | assumption) only [C.ref3_ReadClass_gos, vs, Go.Vc.vk, T.ts, ↓reduceIte, Nat.reduceEqDiff, reduceCtorEq, Nat.reduceLeDiff, Nat.reducePow, Int.reducePow, Int.reduceToNat, Nat.reduceAdd, eq_false hQ', k0, c1, hwe]
      refine eff_call_of ?_
      simp (disch := first | omega | assumption) only [C.ref3_ReadClass_gos, vs, Go.Vc.vk, T.ts, ↓reduceIte, Nat.reduceEqDiff, reduceCtorEq, Nat.reduceLeDiff, Nat.reducePow, Int.reducePow, Int.reduceToNat, Nat.reduceAdd]
      refine (cfail_any Q.2.2.1 (t.p + Q.2.2.2) D1.r).mono ?_
      rintro _ h2 ⟨f2, r2⟩
      have D2' := D1.frR f2 r2
      have own2 := own_keep own1h f2 (e := 66) (fun k _ hk => ⟨_, _, hk ▸ D1.r.1⟩) (by decide)
      obtain ⟨t2, ht2⟩ : ∃ t2, t2 = failS Q.2.2.1 (t.p + Q.2.2.2) t := ⟨_, rfl⟩
      rw [← ht2] at D2' hX
      have D2 : RE h0 g gc cb rb l [.int .u16 (mi : Int), .int .u16 (ma : Int), .int .u16 0, .int .u16 0, .int .u16 0, (.slice none 0 0), (.slice none 0 0), (.slice none 0 0), (.slice none 0 0)] [] [] [] [] (.slice none 0 0) (.slice none 0 0) (.slice none 0 0) (.slice none 0 0) t2 h2 := D2'
      have ht2p : t2.p = t.p := by rw [ht2]; unfold failS; split <;> rfl
      simp (disch := first | omega | assumption) only [C.ref3_ReadClass_gos, vs, Go.Vc.vk, T.ts, ↓reduceIte, Nat.reduceEqDiff, reduceCtorEq, Nat.reduceLeDiff, Nat.reducePow, Int.reducePow, Int.reduceToNat, Nat.reduceAdd]
      clear ht2 D2' f2 r2 hwe
    all_goals
      clear k0 c1 D1 own1h hQ' hQe
      have k0 := D2.k0
      have c1 := D2.r.c1
      have hp2 := D2.r.2
      have hwn : IntKind.i64.wrap ((t2.p : Int) + (Q.2.1 : Int)) = ((t2.p + Q.2.1 : Nat) : Int) := by rw [wrap_i64 (by omega) (by omega)]; omega
      simp (disch := first | omega | assumption) only [C.ref3_ReadClass_gos, vs, Go.Vc.vk, T.ts, ↓reduceIte, Nat.reduceEqDiff, reduceCtorEq, Nat.reduceLeDiff, Nat.reducePow, Int.reducePow, Int.reduceToNat, Nat.reduceAdd, k0, c1, hwn]
      refine eff_store1_z T.zr_3 rfl rfl rfl rfl rfl (u := .int .i64 t2.p) c1 (by simp [frozenAt, D2.r.1]) ?_
      have f3 : FrR gc h2 (setAt h2 ⟨gc, 1, none⟩ (.int .i64 ((t2.p + Q.2.1 : Nat) : Int))) := Fr.set (S := fun k => k = gc) _ _ _ fun _ => rfl
      have b3 := setAt_get (o := 1) D2.r.1 (.int .i64 ((t2.p + Q.2.1 : Nat) : Int))
      have D3 := D2.frR (u := ⟨t2.p + Q.2.1, t2.e, t2.es⟩) f3 ⟨b3, by simp only; omega⟩
      have own3 := own_keep own2 f3 (e := 66) (fun k _ hk => ⟨_, _, hk ▸ D2.r.1⟩) (by decide)
      generalize setAt h2 ⟨gc, 1, none⟩ _ = h3 at *
      clear D2 own2 k0 c1 f3 b3
      have k1 := D3.rg.k1
      simp (disch := first | omega | assumption) only [C.ref3_ReadClass_gos, vs, Go.Vc.vk, T.ts, ↓reduceIte, Nat.reduceEqDiff, reduceCtorEq, Nat.reduceLeDiff, Nat.reducePow, Int.reducePow, Int.reduceToNat, Nat.reduceAdd]
      refine eff_store1_z T.zr_22 rfl rfl rfl rfl rfl k1 (by simp [frozenAt, D3.q]) ?_
      have D4 := D3.setQ own3
      generalize setAt h3 ⟨g, 1, none⟩ _ = h4 at *
      have k5 : cellAt h4 ⟨cb, 5, none⟩ = some (.slice none 0 0) := by rw [D4.cell]; rfl
      simp (disch := first | omega | assumption) only [C.ref3_ReadClass_gos, vs, Go.Vc.vk, T.ts, ↓reduceIte, Nat.reduceEqDiff, reduceCtorEq, Nat.reduceLeDiff, Nat.reducePow, Int.reducePow, Int.reduceToNat, Nat.reduceAdd]
      refine eff_store1_z T.zr_22 rfl rfl rfl rfl rfl k5 (D4.frozen _) ?_
      have D5 := D4.set 5 (.slice aP Q.1.length cP)
      simp (disch := first | omega | assumption) only [C.ref3_ReadClass_gos, vs, Go.Vc.vk, T.ts, ↓reduceIte, Nat.reduceEqDiff, reduceCtorEq, Nat.reduceLeDiff, Nat.reducePow, Int.reducePow, Int.reduceToNat, Nat.reduceAdd]
      exact rread_t6 hl D5 hX
set_option maxHeartbeats 8000000 in
theorem rread_t8 (hl : l.length ≤ 1073741824) (D : Cutr hx gc l t) (D0 : hx[g]? = some (.cells #[.pointer (some ⟨gc, 0, none⟩), (.slice none 0 0)] 112 (0, 0))) (D1 : hx[rb]? = some (.cells clsZ 43 (0, 0))) (D2 : Ext h0 hx) (o1 : h0.size ≤ g) (o2 : h0.size ≤ gc) (o3 : h0.size ≤ rb) (a b : Nat) (s2 : RS) (ha : a = (numS l 2 t).1) (hb : b = (numS l 2 (numS l 2 t).2).1)
    (hs : s2 = if (b = 50 ∨ b = 51) ∧ a = 0 then (numS l 2 (numS l 2 t).2).2 else failS 4 4 (numS l 2 (numS l 2 t).2).2) (hX : finC (restR (poolQ l s2).1 l a b (poolQ l s2).2) = X) :
    Cd.vc Try.prog C.ref3_ReadClass_t8 (retQ Try.prog [(2, some 43), (3, none), (4, none)] (clsPost h0 X)) [(0, str l), (2, .pointer (some ⟨rb, 0, none⟩)), (3, .int .i64 0), (4, .int .i64 0), (5, .pointer (some ⟨g, 0, none⟩)), (6, x6), (7, x7), (8, x8), (9, x9), (10, x10), (11, x11), (12, x12), (13, x13), (14, x14), (16, x16), (17, x17), (28, x28), (53, x53), (66, x66), (83, x83), (141, x141), (167, x167), (193, x193), (219, x219), (241, x241), (261, x261)] hx := by
  rw [C.ref3_ReadClass_t8_go]
  simp (disch := first | omega | assumption) only [C.ref3_ReadClass_gos, vs, Go.Vc.vk, T.ts, ↓reduceIte, Nat.reduceEqDiff, reduceCtorEq, Nat.reduceLeDiff, Nat.reducePow, Int.reducePow, Int.reduceToNat, Nat.reduceAdd]
  refine eff_alloc_z T.zr_43 ?_
  simp (disch := first | omega | assumption) only [C.ref3_ReadClass_gos, vs, Go.Vc.vk, T.ts, ↓reduceIte, Nat.reduceEqDiff, reduceCtorEq, Nat.reduceLeDiff, Nat.reducePow, Int.reducePow, Int.reduceToNat, Nat.reduceAdd]
  refine eff_store_new_z T.zr_43 rfl rfl rfl (by simp [Value.cells, oneCell, str]) rfl ?_
  intro h2 x2 hlt2 hrd2 b2
  have hrl := (Array.getElem?_eq_some_iff.1 D1).1
  have hs0 := D2.size
  have E0 : RE h0 g gc hx.size rb l [.int .u16 0, .int .u16 0, .int .u16 0, .int .u16 0, .int .u16 0, (.slice none 0 0), (.slice none 0 0), (.slice none 0 0), (.slice none 0 0)] [] [] [] [] (.slice none 0 0) (.slice none 0 0) (.slice none 0 0) (.slice none 0 0) t h2 :=
    ⟨b2, Fr_blk x2 D0 id, D.fr x2 id, Own.nil, Own.nil, Own.nil, ⟨[], rfl, Own.nil, fun j hj => absurd hj (Nat.not_lt_zero j)⟩, D2.trans x2, Fr_blk x2 D1 id, o1, o2, hs0, o3, by omega⟩
  clear b2 x2 hrd2 D D0 D1 D2
  generalize hx.size = cb at *
  simp (disch := first | omega | assumption) only [C.ref3_ReadClass_gos, vs, Go.Vc.vk, T.ts, ↓reduceIte, Nat.reduceEqDiff, reduceCtorEq, Nat.reduceLeDiff, Nat.reducePow, Int.reducePow, Int.reduceToNat, Nat.reduceAdd]
  refine eff_call_of ?_
  simp (disch := first | omega | assumption) only [C.ref3_ReadClass_gos, vs, Go.Vc.vk, T.ts, ↓reduceIte, Nat.reduceEqDiff, reduceCtorEq, Nat.reduceLeDiff, Nat.reducePow, Int.reducePow, Int.reduceToNat, Nat.reduceAdd]
  refine (rindex_any hl E0.rg).mono ?_
  rintro _ y4 ⟨f4, r4, rfl⟩
  have E4 := E0.frR f4 r4
  rw [← ha]
  have kc : cellAt y4 ⟨cb, 0, none⟩ = some (.int .u16 0) := by rw [E4.cell]; rfl
  simp (disch := first | omega | assumption) only [C.ref3_ReadClass_gos, vs, Go.Vc.vk, T.ts, ↓reduceIte, Nat.reduceEqDiff, reduceCtorEq, Nat.reduceLeDiff, Nat.reducePow, Int.reducePow, Int.reduceToNat, Nat.reduceAdd]
  refine eff_store1_z T.zr_38 rfl rfl rfl rfl rfl kc (E4.frozen _) ?_
  have D4 := E4.set 0 (.int .u16 (a : Int))
  clear E4 kc f4 r4 E0
  generalize setAt y4 ⟨cb, 0, none⟩ _ = h4 at *
  simp (disch := first | omega | assumption) only [C.ref3_ReadClass_gos, vs, Go.Vc.vk, T.ts, ↓reduceIte, Nat.reduceEqDiff, reduceCtorEq, Nat.reduceLeDiff, Nat.reducePow, Int.reducePow, Int.reduceToNat, Nat.reduceAdd]
  refine eff_call_of ?_
  simp (disch := first | omega | assumption) only [C.ref3_ReadClass_gos, vs, Go.Vc.vk, T.ts, ↓reduceIte, Nat.reduceEqDiff, reduceCtorEq, Nat.reduceLeDiff, Nat.reducePow, Int.reducePow, Int.reduceToNat, Nat.reduceAdd]
  refine (rindex_any hl D4.rg).mono ?_
  rintro _ y6 ⟨f6, r6, rfl⟩
  have E6 := D4.frR f6 r6
  rw [← hb]
  have kc : cellAt y6 ⟨cb, 1, none⟩ = some (.int .u16 0) := by rw [E6.cell]; rfl
  simp (disch := first | omega | assumption) only [C.ref3_ReadClass_gos, vs, Go.Vc.vk, T.ts, ↓reduceIte, Nat.reduceEqDiff, reduceCtorEq, Nat.reduceLeDiff, Nat.reducePow, Int.reducePow, Int.reduceToNat, Nat.reduceAdd]
  refine eff_store1_z T.zr_38 rfl rfl rfl rfl rfl kc (E6.frozen _) ?_
  have D6 := E6.set 1 (.int .u16 (b : Int))
  clear E6 kc f6 r6 D4
  generalize setAt y6 ⟨cb, 1, none⟩ _ = h6 at *
  have c1 : cellAt h6 ⟨cb, 0, none⟩ = some (.int .u16 (a : Int)) := by rw [D6.cell]; rfl
  have c2 : cellAt h6 ⟨cb, 1, none⟩ = some (.int .u16 (b : Int)) := by rw [D6.cell]; rfl
  have D7 : RE h0 g gc cb rb l [.int .u16 (a : Int), .int .u16 (b : Int), .int .u16 0, .int .u16 0, .int .u16 0, (.slice none 0 0), (.slice none 0 0), (.slice none 0 0), (.slice none 0 0)] [] [] [] [] (.slice none 0 0) (.slice none 0 0) (.slice none 0 0) (.slice none 0 0) _ h6 := D6
  clear D6
  have k0 := D7.k0
  by_cases h00 : a = 0
  · have i0 : (a : Int) = 0 := by omega
    by_cases h50 : b = 50
    · have i50 : (b : Int) = 50 := by omega
      rw [if_pos ⟨.inl h50, h00⟩] at hs
      subst hs
      simp (disch := first | omega | assumption) only [C.ref3_ReadClass_gos, vs, Go.Vc.vk, T.ts, ↓reduceIte, Nat.reduceEqDiff, reduceCtorEq, Nat.reduceLeDiff, Nat.reducePow, Int.reducePow, Int.reduceToNat, Nat.reduceAdd, c1, c2, eq_true i0, eq_true i50]
      exact rread_t7 hl D7 hX
    · have i50 : ¬ (b : Int) = 50 := by omega
      by_cases h51 : b = 51
      · have i51 : (b : Int) = 51 := by omega
        rw [if_pos ⟨.inr h51, h00⟩] at hs
        subst hs
        simp (disch := first | omega | assumption) only [C.ref3_ReadClass_gos, vs, Go.Vc.vk, T.ts, ↓reduceIte, Nat.reduceEqDiff, reduceCtorEq, Nat.reduceLeDiff, Nat.reducePow, Int.reducePow, Int.reduceToNat, Nat.reduceAdd, c1, c2, eq_true i0, eq_false i50, eq_true i51]
        exact rread_t7 hl D7 hX
      · have i51 : ¬ (b : Int) = 51 := by omega
        rw [if_neg (fun hh => hh.1.elim h50 h51)] at hs
        subst hs
        simp (disch := first | omega | assumption) only [C.ref3_ReadClass_gos, vs, Go.Vc.vk, T.ts, ↓reduceIte, Nat.reduceEqDiff, reduceCtorEq, Nat.reduceLeDiff, Nat.reducePow, Int.reducePow, Int.reduceToNat, Nat.reduceAdd, c1, c2, eq_true i0, eq_false i50, eq_false i51, k0]
        refine eff_call_of ?_
        simp (disch := first | omega | assumption) only [C.ref3_ReadClass_gos, vs, Go.Vc.vk, T.ts, ↓reduceIte, Nat.reduceEqDiff, reduceCtorEq, Nat.reduceLeDiff, Nat.reducePow, Int.reducePow, Int.reduceToNat, Nat.reduceAdd]
        refine (cfail_any 4 4 D7.r).mono ?_
        rintro _ h8 ⟨f8, r8⟩
        have D8 := D7.frR f8 r8
        simp (disch := first | omega | assumption) only [C.ref3_ReadClass_gos, vs, Go.Vc.vk, T.ts, ↓reduceIte, Nat.reduceEqDiff, reduceCtorEq, Nat.reduceLeDiff, Nat.reducePow, Int.reducePow, Int.reduceToNat, Nat.reduceAdd]
        exact rread_t7 hl D8 hX
  · have i0 : ¬ (a : Int) = 0 := by omega
    rw [if_neg (fun hh => h00 hh.2)] at hs
    subst hs
    simp (disch := first | omega | assumption) only [C.ref3_ReadClass_gos, vs, Go.Vc.vk, T.ts, ↓reduceIte, Nat.reduceEqDiff, reduceCtorEq, Nat.reduceLeDiff, Nat.reducePow, Int.reducePow, Int.reduceToNat, Nat.reduceAdd, c1, c2, eq_false i0, k0]
    refine eff_call_of ?_
    simp (disch := first | omega | assumption) only [C.ref3_ReadClass_gos, vs, Go.Vc.vk, T.ts, ↓reduceIte, Nat.reduceEqDiff, reduceCtorEq, Nat.reduceLeDiff, Nat.reducePow, Int.reducePow, Int.reduceToNat, Nat.reduceAdd]
    refine (cfail_any 4 4 D7.r).mono ?_
    rintro _ h8 ⟨f8, r8⟩
    have D8 := D7.frR f8 r8
    simp (disch := first | omega | assumption) only [C.ref3_ReadClass_gos, vs, Go.Vc.vk, T.ts, ↓reduceIte, Nat.reduceEqDiff, reduceCtorEq, Nat.reduceLeDiff, Nat.reducePow, Int.reducePow, Int.reduceToNat, Nat.reduceAdd]
    exact rread_t7 hl D8 hX
set_option maxHeartbeats 8000000 in
theorem rclass_any (l : List UInt8) (h : Heap) (hl : l.length ≤ 1073741824) : HCalls Try.prog 20 #[str l] h (clsPost h (readQ l)) := by
  refine C.ref3_ReadClass_calls (args := [str l]) rfl ?_
  simp (disch := first | omega | assumption) only [C.ref3_ReadClass_gos, vs, Go.Vc.vk, T.ts, ↓reduceIte, Nat.reduceEqDiff, reduceCtorEq, Nat.reduceLeDiff, Nat.reducePow, Int.reducePow, Int.reduceToNat, Nat.reduceAdd]
  refine eff_alloc_z T.zr_43 ?_
  have e1 : Ext h (h.push (.cells clsZ 43)) := Ext.push _ _
  have b1 : (h.push (.cells clsZ 43))[h.size]? = some (.cells clsZ 43 (0, 0)) := by simp
  simp (disch := first | omega | assumption) only [C.ref3_ReadClass_gos, vs, Go.Vc.vk, T.ts, ↓reduceIte, Nat.reduceEqDiff, reduceCtorEq, Nat.reduceLeDiff, Nat.reducePow, Int.reducePow, Int.reduceToNat, Nat.reduceAdd]
  change eff _ _ _ _ _ (h.push (.cells clsZ 43)) _
  generalize h.push (.cells clsZ 43) = h1 at *
  refine eff_box ?_
  have e2 : Ext h1 (h1.push (.cells #[str l, .int .i64 0, .int .i64 0, .int .i64 0] 66)) := Ext.push _ _
  have b2 : (h1.push (.cells #[str l, .int .i64 0, .int .i64 0, .int .i64 0] 66))[h1.size]? = some (.cells #[str l, .int .i64 0, .int .i64 0, .int .i64 0] 66 (0, 0)) := by simp
  simp (disch := first | omega | assumption) only [C.ref3_ReadClass_gos, vs, Go.Vc.vk, T.ts, ↓reduceIte, Nat.reduceEqDiff, reduceCtorEq, Nat.reduceLeDiff, Nat.reducePow, Int.reducePow, Int.reduceToNat, Nat.reduceAdd]
  generalize h1.push (.cells #[str l, .int .i64 0, .int .i64 0, .int .i64 0] 66) = h2 at *
  have hs1 := e1.size
  have b12 := Fr_blk e2 b1 id
  have hs2 := e2.size
  have hlt := (Array.getElem?_eq_some_iff.1 b2).1
  generalize h1.size = gc at *
  refine eff_box ?_
  have e3 : Ext h2 (h2.push (.cells #[.pointer (some ⟨gc, 0, none⟩), (.slice none 0 0)] 112)) := Ext.push _ _
  have b3 : (h2.push (.cells #[.pointer (some ⟨gc, 0, none⟩), (.slice none 0 0)] 112))[h2.size]? = some (.cells #[.pointer (some ⟨gc, 0, none⟩), (.slice none 0 0)] 112 (0, 0)) := by simp
  simp (disch := first | omega | assumption) only [C.ref3_ReadClass_gos, vs, Go.Vc.vk, T.ts, ↓reduceIte, Nat.reduceEqDiff, reduceCtorEq, Nat.reduceLeDiff, Nat.reducePow, Int.reducePow, Int.reduceToNat, Nat.reduceAdd]
  generalize h2.push (.cells #[.pointer (some ⟨gc, 0, none⟩), (.slice none 0 0)] 112) = h3 at *
  have D0 : Cutr h3 gc l ⟨0, 0, 0⟩ := ⟨Fr_blk e3 b2 id, Nat.zero_le _⟩
  have z0 := Fr_blk e3 b12 id
  have X0 : Ext h h3 := (e1.trans e2).trans e3
  have o1 : h.size ≤ h2.size := (e1.trans e2).size
  clear b1 b2 b12 e1 e2 e3
  generalize h2.size = g at *
  have k0 : cellAt h3 ⟨g, 0, none⟩ = some (.pointer (some ⟨gc, 0, none⟩)) := by rw [cellAt_of b3]; rfl
  simp (disch := first | omega | assumption) only [C.ref3_ReadClass_gos, vs, Go.Vc.vk, T.ts, ↓reduceIte, Nat.reduceEqDiff, reduceCtorEq, Nat.reduceLeDiff, Nat.reducePow, Int.reducePow, Int.reduceToNat, Nat.reduceAdd, k0]
  refine eff_call_of ?_
  simp (disch := first | omega | assumption) only [C.ref3_ReadClass_gos, vs, Go.Vc.vk, T.ts, ↓reduceIte, Nat.reduceEqDiff, reduceCtorEq, Nat.reduceLeDiff, Nat.reducePow, Int.reducePow, Int.reduceToNat, Nat.reduceAdd]
  refine (ctake_any 4 hl (by omega) D0).mono ?_
  rintro _ h4 ⟨f4, r4, rfl⟩
  have b4 := Fr_blk f4 b3 (cell_ne b3 D0.1 (by decide))
  have z4 := Fr_blk f4 z0 (cell_ne z0 D0.1 (by decide))
  have X4 : Ext h h4 := Fr.trans X0 f4 (fun _ _ hh => hh) (fun k hk hS => by omega)
  have k0 : cellAt h4 ⟨g, 0, none⟩ = some (.pointer (some ⟨gc, 0, none⟩)) := by rw [cellAt_of b4]; rfl
  have hsz : h.size ≤ gc := by omega
  by_cases hm : (takeS l 4 ⟨0, 0, 0⟩).1 = [202, 254, 186, 190]
  · have hm2 := magic_iff.1 hm
    simp (disch := first | omega | assumption) only [C.ref3_ReadClass_gos, vs, Go.Vc.vk, T.ts, ↓reduceIte, Nat.reduceEqDiff, reduceCtorEq, Nat.reduceLeDiff, Nat.reducePow, Int.reducePow, Int.reduceToNat, Nat.reduceAdd, eq_true hm]
    refine rread_t8 hl r4 b4 z4 X4 o1 hsz (Nat.le_refl _) _ _ _ rfl rfl rfl ?_
    unfold readQ preR
    simp only [if_pos hm2]
    rfl
  · have hm2 : ¬ (numS l 4 ⟨0, 0, 0⟩).1 = 3405691582 := fun hh => hm (magic_iff.2 hh)
    simp (disch := first | omega | assumption) only [C.ref3_ReadClass_gos, vs, Go.Vc.vk, T.ts, ↓reduceIte, Nat.reduceEqDiff, reduceCtorEq, Nat.reduceLeDiff, Nat.reducePow, Int.reducePow, Int.reduceToNat, Nat.reduceAdd, eq_false hm, k0]
    refine eff_call_of ?_
    simp (disch := first | omega | assumption) only [C.ref3_ReadClass_gos, vs, Go.Vc.vk, T.ts, ↓reduceIte, Nat.reduceEqDiff, reduceCtorEq, Nat.reduceLeDiff, Nat.reducePow, Int.reducePow, Int.reduceToNat, Nat.reduceAdd]
    refine (cfail_any 3 0 r4).mono ?_
    rintro _ h5 ⟨f5, r5⟩
    simp (disch := first | omega | assumption) only [C.ref3_ReadClass_gos, vs, Go.Vc.vk, T.ts, ↓reduceIte, Nat.reduceEqDiff, reduceCtorEq, Nat.reduceLeDiff, Nat.reducePow, Int.reducePow, Int.reduceToNat, Nat.reduceAdd]
    refine rread_t8 hl r5 (Fr_blk f5 b4 (cell_ne b4 r4.1 (by decide))) (Fr_blk f5 z4 (cell_ne z4 r4.1 (by decide))) (Fr.trans X4 f5 (fun _ _ hh => hh) (fun k hk hS => by omega)) o1 hsz (Nat.le_refl _) _ _ _ rfl rfl rfl ?_
    unfold readQ preR
    simp only [if_neg hm2]
    rfl
end
end Go.Proofs.Ytohkbpnblkkdgaa

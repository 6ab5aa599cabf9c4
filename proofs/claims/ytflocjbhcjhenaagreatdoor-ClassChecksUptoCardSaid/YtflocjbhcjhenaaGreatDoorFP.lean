/- A constant checked, by the reference. The flags of a method, by the reference. Code checked, by the reference. No condition. -/
import Derived.Test.YtflocjbhcjhenaaGreatDoorFL
set_option linter.unusedSimpArgs false
set_option linter.unusedVariables false
namespace Go.Proofs.YtflocjbhcjhenaaGreatDoor
open Go.Vc
set_option maxRecDepth 100000
theorem rmemK_eq (na nd : List UInt8) (tag : Nat) (ht : tag = 9 ∨ tag = 10 ∨ tag = 11) : rmemK na nd (decide (tag = 9)) (decide (tag = 10)) =
    (if tag = 9 then (if memP na false = 0 then 8 else if fieldP nd = false then 9 else 0)
      else if memP na true = 0 ∨ memP na true = 3 ∨ (memP na true = 2 ∧ tag = 11) then 8
      else if (methP nd).isSome = false ∨ (memP na true = 2 ∧ mG nd ≠ [86]) then 9 else 0) := by
  have h1 := memP_lt na true
  unfold rmemK
  by_cases t9 : tag = 9
  · rw [if_pos t9, decide_eq_true t9, if_pos rfl]
    by_cases m0 : memP na false = 0
    · rw [if_pos m0, decide_eq_false (by omega)]; rfl
    · rw [if_neg m0, decide_eq_true (by omega)]
      cases fieldP nd <;> rfl
  · rw [if_neg t9, decide_eq_false t9, if_neg (by decide)]
    generalize memP na true = kd at *
    by_cases c1 : kd = 0 ∨ kd = 3 ∨ (kd = 2 ∧ tag = 11)
    · rw [if_pos c1]
      have : (decide (kd = 1) || (decide (kd = 2) && decide (tag = 10))) = false := by
        rw [Bool.or_eq_false_iff, Bool.and_eq_false_iff, decide_eq_false_iff_not, decide_eq_false_iff_not, decide_eq_false_iff_not]
        omega
      rw [this]; rfl
    · rw [if_neg c1]
      have : (decide (kd = 1) || (decide (kd = 2) && decide (tag = 10))) = true := by
        rw [Bool.or_eq_true, Bool.and_eq_true, decide_eq_true_eq, decide_eq_true_eq, decide_eq_true_eq]
        omega
      rw [this]
      by_cases k2 : kd = 2
      · by_cases hg : mG nd = [86]
        · rw [decide_eq_true hg, decide_eq_false (by simp [k2])]
          cases (methP nd).isSome
          · rw [if_pos (.inl rfl)]; rfl
          · rw [if_neg (by simp [hg])]; rfl
        · rw [decide_eq_false hg, decide_eq_false (by simp [k2]), if_pos (.inr ⟨k2, hg⟩)]
          cases (methP nd).isSome <;> rfl
      · rw [decide_eq_true (show kd ≠ 2 from k2)]
        cases (methP nd).isSome
        · rw [if_pos (.inl rfl)]; rfl
        · rw [if_neg (by simp [k2])]; rfl
section
variable {h : Heap} {g : Nat} {c : Cls} {vp vi vf vm : Value}
set_option maxHeartbeats 8000000 in
theorem rkconstant_any (H : RB h g c vp vi vf vm) (F : CF c) (k : Cst) (hk : k.Fit) :
    HCalls Tryz.prog 13 #[rkV g, cstA k] h fun v h' => Ext h h' ∧ v = .int .i64 (cstK c.pool k : Nat) := by
  refine C.rk_constant_calls (args := [rkV g, cstA k]) rfl ?_
  simp only [C.rk_constant_gos, T.tv]
  refine eff_box ?_
  have E := Ext.push h (cstO k)
  have qc : (h.push (cstO k))[h.size]? = some (cstO k) := by simp
  simp only [C.rk_constant_gos, T.tv, seval]
  generalize h.push (cstO k) = h1 at *
  generalize h.size = q at *
  have H1 := H.ext E
  have key : ∀ h3, Ext h1 h3 → cellAt h3 ⟨q, 0, none⟩ = some (.int .u8 (k.tag : Int)) ∧ cellAt h3 ⟨q, 3, none⟩ = some (.int .u16 (k.a : Int)) ∧ cellAt h3 ⟨q, 4, none⟩ = some (.int .u16 (k.b : Int)) := by
    intro h3 x3
    have b2 := Fr_blk x3 qc _root_.id
    refine ⟨?_, ?_, ?_⟩
    all_goals rw [cellAt_of b2]; rfl
  obtain ⟨k0, k3, k4⟩ := key h1 (Ext.refl _)
  have la := F.str k.a
  have lb := F.str k.b
  simp only [T.tv, k3]
  refine eff_callF rfl ((rktext_any H1 k.a hk.a).mono ?_)
  rintro v2 h2 ⟨rfl, rfl⟩
  simp only [C.rk_constant_gos, T.tv, seval, k4]
  refine eff_callF rfl ((rktext_any H1 k.b hk.b).mono ?_)
  rintro v3 h3 ⟨rfl, rfl⟩
  have c5 : cellAt h3 ⟨g, 5, none⟩ = some vp := H1.at rfl
  unfold cstK
  by_cases t9 : k.tag = 9 ∨ k.tag = 10 ∨ k.tag = 11
  · rw [if_neg (by omega), if_neg (by omega), if_neg (by omega), if_pos t9]
    clear la lb
    have wa : IntKind.i64.wrap (k.a : Int) = (k.a : Int) := by have := hk.a; exact wrap_i64 (by omega) (by omega)
    have wb : IntKind.i64.wrap (k.b : Int) = (k.b : Int) := by have := hk.b; exact wrap_i64 (by omega) (by omega)
    have hd9 : decide ((k.tag : Int) = 9) = decide (k.tag = 9) := decide_eq_decide.2 (by omega)
    have hd10 : decide ((k.tag : Int) = 10) = decide (k.tag = 10) := decide_eq_decide.2 (by omega)
    have hme : memK c.pool k = (if isS c.pool k.a 7 = false ∨ isS c.pool k.b 12 = false then 7
      else if isS c.pool (c.pool.getD k.b Cst.zero).a 1 = false ∨ isS c.pool (c.pool.getD k.b Cst.zero).b 1 = false then 7
      else rmemK (strS c.pool (c.pool.getD k.b Cst.zero).a) (strS c.pool (c.pool.getD k.b Cst.zero).b) (decide (k.tag = 9)) (decide (k.tag = 10))) := by
      rw [rmemK_eq _ _ _ t9]; rfl
    rw [hme]
    clear hme
    rcases t9 with t | t | t
    all_goals
      simp (disch := omega) only [C.rk_constant_gos, T.tv, seval, k0, c5, k3, wa, va]
      refine eff_callF rfl ((ris_any k.a 7 H1.cls.p).mono ?_)
      rintro v4 h4 ⟨rfl, rfl⟩
      cases h7 : isS c.pool k.a 7 with
      | false =>
        rw [if_pos (.inl rfl)]
        simp only [C.rk_constant_gos, T.tv, ↓reduceIte, Nat.reduceEqDiff, reduceCtorEq]
        exact ⟨E, rfl⟩
      | true =>
      simp only [T.tv, c5, seval, k4, wb]
      refine eff_callF rfl ((ris_any k.b 12 H1.cls.p).mono ?_)
      rintro v5 h5 ⟨rfl, rfl⟩
      cases h12 : isS c.pool k.b 12 with
      | false =>
        rw [if_pos (.inr rfl)]
        simp only [C.rk_constant_gos, T.tv, ↓reduceIte, Nat.reduceEqDiff, reduceCtorEq]
        exact ⟨E, rfl⟩
      | true =>
      rw [if_neg (by simp)]
      obtain ⟨_, hkl⟩ := isS_lt h12
      have hk' : (k.b : Int) < (c.pool.length : Int) := by omega
      have hs := H1.cls.p
      obtain ⟨b, o, c', hvp, hrd, _⟩ := hs.at hkl
      subst hvp
      rw [flatS_at hkl] at hrd
      have hfx := F.fit.pool (c.pool.getD k.b Cst.zero) (by simp [hkl])
      generalize c.pool.getD k.b Cst.zero = y at *
      have y3 : cellAt h5 ⟨b, o + k.b * 5 + 3, none⟩ = some (.int .u16 (y.a : Int)) := hrd 3 _ rfl
      have y4 : cellAt h5 ⟨b, o + k.b * 5 + 4, none⟩ = some (.int .u16 (y.b : Int)) := hrd 4 _ rfl
      have la := F.str y.a
      have lb := F.str y.b
      simp (disch := omega) only [C.rk_constant_gos, T.tv, seval, c5, k4, y3]
      refine eff_callF rfl ((rktext_any H1 y.a hfx.a).mono ?_)
      rintro v6 h6 ⟨rfl, rfl⟩
      simp (disch := omega) only [C.rk_constant_gos, T.tv, seval, c5, k4, y4]
      refine eff_callF rfl ((rktext_any H1 y.b hfx.b).mono ?_)
      rintro v7 h7 ⟨rfl, rfl⟩
      generalize strS c.pool y.a = na at *
      generalize strS c.pool y.b = nd at *
      cases isS c.pool y.a 1 with
      | false =>
        rw [if_pos (.inl rfl)]
        simp only [C.rk_constant_gos, T.tv, ↓reduceIte, Nat.reduceEqDiff, reduceCtorEq]
        exact ⟨E, rfl⟩
      | true =>
      cases isS c.pool y.b 1 with
      | false =>
        rw [if_pos (.inr rfl)]
        simp only [C.rk_constant_gos, T.tv, ↓reduceIte, Nat.reduceEqDiff, reduceCtorEq]
        exact ⟨E, rfl⟩
      | true =>
      rw [if_neg (by simp)]
      simp only [C.rk_constant_gos, T.tv, seval, k0, hd9, hd10]
      refine eff_callF rfl ((rmemberK_any na nd la lb (decide (k.tag = 9)) (decide (k.tag = 10))).mono ?_)
      rintro v8 h8 ⟨x8, rfl⟩
      simp only [T.tv, seval]
      first | exact E.trans x8 | exact ⟨E.trans x8, by simp [t]⟩
  generalize strS c.pool k.a = na at *
  generalize strS c.pool k.b = nd at *
  generalize isS c.pool k.a 1 = i1 at *
  generalize isS c.pool k.b 1 = i2 at *
  by_cases t7 : k.tag = 7
  · rw [if_pos t7]
    have fin : firstE [unl i1 7, unl (clsN na) 8] = (if i1 = false then 7 else if clsN na = false then 8 else 0) := by
      cases i1 <;> cases clsN na <;> rfl
    rw [← fin]
    simp (disch := omega) only [C.rk_constant_gos, T.tv, seval, k0, va]
    refine eff_callF rfl ((unless_any i1 7).mono ?_)
    rintro v4 h4 ⟨rfl, rfl⟩
    simp only [T.tv, seval]
    refine eff_callF rfl ((rclass_any na la).mono ?_)
    rintro v5 h5 ⟨rfl, rfl⟩
    simp only [T.tv]
    refine eff_callF rfl ((unless_any (clsN na) 8).mono ?_)
    rintro v6 h6 ⟨rfl, rfl⟩
    generalize unl i1 7 = e1 at *
    generalize unl (clsN na) 8 = e2 at *
    simp only [T.tv]
    refine eff_lits T.slT_80 rfl rfl (by simp []) ?_
    simp only [T.tv, seval]
    have E2 := Ext.push h6 (.cells #[.int .i64 (e1 : Int), .int .i64 (e2 : Int)] 31)
    have t8 : Sl (h6.push (.cells #[.int .i64 (e1 : Int), .int .i64 (e2 : Int)] 31)) (.slice (some ⟨h6.size, 0, none⟩) 2 2) (([e1, e2] : List Nat).map fun t : Nat => .int .i64 (t : Int)) := errs_sl (es := [e1, e2]) (Rd_new (vs := [.int .i64 (e1 : Int), .int .i64 (e2 : Int)]))
    generalize h6.push (.cells #[.int .i64 (e1 : Int), .int .i64 (e2 : Int)] 31) = h7 at *
    generalize h6.size = q7 at *
    refine eff_callF rfl ((one_any [e1, e2] (by simp) t8).mono ?_)
    rintro v8 h8 ⟨rfl, rfl⟩
    simp only [T.tv, seval]
    exact E.trans E2
  rw [if_neg t7]
  by_cases t8 : k.tag = 8
  · rw [if_pos t8]
    have fin : unl i1 7 = (if i1 = false then 7 else 0) := by cases i1 <;> rfl
    rw [← fin]
    simp (disch := omega) only [C.rk_constant_gos, T.tv, seval, k0, va]
    refine eff_callF rfl ((unless_any i1 7).mono ?_)
    rintro v4 h4 ⟨rfl, rfl⟩
    simp only [T.tv, seval]
    exact E
  rw [if_neg t8]
  by_cases t12 : k.tag = 12
  · rw [if_pos t12]
    simp (disch := omega) only [C.rk_constant_gos, T.tv, seval, k0, va]
    refine eff_callF rfl ((rmethod_any nd lb).mono ?_)
    rintro v4 h4 ⟨x4, hm⟩
    obtain ⟨sv, rfl, _⟩ := MethV_parts hm
    generalize (methP nd).isSome = ok at *
    generalize mG nd = gv at *
    have X4 := E.trans x4
    simp only [C.rk_constant_gos, T.tv, seval]
    refine eff_callF rfl ((rmember_any na true la).mono ?_)
    rintro v5 h5 ⟨rfl, rfl⟩
    by_cases m0 : 0 < memP na true
    case pos =>
      simp (disch := omega) only [C.rk_constant_gos, T.tv, seval, va]
      cases i1 with
      | false =>
        have fin : firstE [unl false 7, unl true 8, unl (ok || fieldP nd) 9] = (if (false : Bool) = false ∨ i2 = false then 7 else if memP na true = 0 ∧ memP na false = 0 then 8 else if ok = false ∧ fieldP nd = false then 9 else 0) := by
          rw [if_pos (.inl rfl)]; rfl
        rw [← fin]
        simp only [T.tv, seval]
        refine eff_callF rfl ((unless_any false 7).mono ?_)
        rintro v7 h7 ⟨rfl, rfl⟩
        simp only [T.tv, seval]
        refine eff_callF rfl ((unless_any true 8).mono ?_)
        rintro v8 h8 ⟨rfl, rfl⟩
        cases ok with
        | true =>
          simp only [T.tv, seval]
          refine eff_callF rfl ((unless_any true 9).mono ?_)
          rintro v10 h10 ⟨rfl, rfl⟩
          rw [show (true || fieldP nd) = true from rfl]
          generalize unl false 7 = e1 at *
          generalize unl true 8 = e2 at *
          generalize unl true 9 = e3 at *
          simp only [T.tv]
          refine eff_lits T.slT_80 rfl rfl (by simp []) ?_
          simp only [T.tv, seval]
          have E2 := Ext.push h10 (.cells #[.int .i64 (e1 : Int), .int .i64 (e2 : Int), .int .i64 (e3 : Int)] 31)
          have t11 : Sl (h10.push (.cells #[.int .i64 (e1 : Int), .int .i64 (e2 : Int), .int .i64 (e3 : Int)] 31)) (.slice (some ⟨h10.size, 0, none⟩) 3 3) (([e1, e2, e3] : List Nat).map fun t : Nat => .int .i64 (t : Int)) := errs_sl (es := [e1, e2, e3]) (Rd_new (vs := [.int .i64 (e1 : Int), .int .i64 (e2 : Int), .int .i64 (e3 : Int)]))
          generalize h10.push (.cells #[.int .i64 (e1 : Int), .int .i64 (e2 : Int), .int .i64 (e3 : Int)] 31) = h11 at *
          generalize h10.size = q11 at *
          refine eff_callF rfl ((one_any [e1, e2, e3] (by simp) t11).mono ?_)
          rintro v12 h12 ⟨rfl, rfl⟩
          simp only [T.tv, seval]
          exact X4.trans E2
        | false =>
          simp only [T.tv, seval]
          refine eff_callF rfl ((rfield_any nd lb).mono ?_)
          rintro v9 h9 ⟨rfl, rfl⟩
          simp only [T.tv, seval]
          refine eff_callF rfl ((unless_any (fieldP nd) 9).mono ?_)
          rintro v10 h10 ⟨rfl, rfl⟩
          rw [show (false || fieldP nd) = fieldP nd from rfl]
          generalize unl false 7 = e1 at *
          generalize unl true 8 = e2 at *
          generalize unl (fieldP nd) 9 = e3 at *
          simp only [T.tv]
          refine eff_lits T.slT_80 rfl rfl (by simp []) ?_
          simp only [T.tv, seval]
          have E2 := Ext.push h10 (.cells #[.int .i64 (e1 : Int), .int .i64 (e2 : Int), .int .i64 (e3 : Int)] 31)
          have t11 : Sl (h10.push (.cells #[.int .i64 (e1 : Int), .int .i64 (e2 : Int), .int .i64 (e3 : Int)] 31)) (.slice (some ⟨h10.size, 0, none⟩) 3 3) (([e1, e2, e3] : List Nat).map fun t : Nat => .int .i64 (t : Int)) := errs_sl (es := [e1, e2, e3]) (Rd_new (vs := [.int .i64 (e1 : Int), .int .i64 (e2 : Int), .int .i64 (e3 : Int)]))
          generalize h10.push (.cells #[.int .i64 (e1 : Int), .int .i64 (e2 : Int), .int .i64 (e3 : Int)] 31) = h11 at *
          generalize h10.size = q11 at *
          refine eff_callF rfl ((one_any [e1, e2, e3] (by simp) t11).mono ?_)
          rintro v12 h12 ⟨rfl, rfl⟩
          simp only [T.tv, seval]
          exact X4.trans E2
      | true =>
        have fin : firstE [unl i2 7, unl true 8, unl (ok || fieldP nd) 9] = (if (true : Bool) = false ∨ i2 = false then 7 else if memP na true = 0 ∧ memP na false = 0 then 8 else if ok = false ∧ fieldP nd = false then 9 else 0) := by
          have hn : (memP na true = 0 ∧ memP na false = 0) ↔ true = false := by exact ⟨fun h => absurd h.1 (by omega), fun h => absurd h (by decide)⟩
          simp only [hn]
          cases i2 <;> cases ok <;> cases fieldP nd <;> rfl
        rw [← fin]
        simp only [T.tv, seval]
        refine eff_callF rfl ((unless_any i2 7).mono ?_)
        rintro v7 h7 ⟨rfl, rfl⟩
        simp only [T.tv, seval]
        refine eff_callF rfl ((unless_any true 8).mono ?_)
        rintro v8 h8 ⟨rfl, rfl⟩
        cases ok with
        | true =>
          simp only [T.tv, seval]
          refine eff_callF rfl ((unless_any true 9).mono ?_)
          rintro v10 h10 ⟨rfl, rfl⟩
          rw [show (true || fieldP nd) = true from rfl]
          generalize unl i2 7 = e1 at *
          generalize unl true 8 = e2 at *
          generalize unl true 9 = e3 at *
          simp only [T.tv]
          refine eff_lits T.slT_80 rfl rfl (by simp []) ?_
          simp only [T.tv, seval]
          have E2 := Ext.push h10 (.cells #[.int .i64 (e1 : Int), .int .i64 (e2 : Int), .int .i64 (e3 : Int)] 31)
          have t11 : Sl (h10.push (.cells #[.int .i64 (e1 : Int), .int .i64 (e2 : Int), .int .i64 (e3 : Int)] 31)) (.slice (some ⟨h10.size, 0, none⟩) 3 3) (([e1, e2, e3] : List Nat).map fun t : Nat => .int .i64 (t : Int)) := errs_sl (es := [e1, e2, e3]) (Rd_new (vs := [.int .i64 (e1 : Int), .int .i64 (e2 : Int), .int .i64 (e3 : Int)]))
          generalize h10.push (.cells #[.int .i64 (e1 : Int), .int .i64 (e2 : Int), .int .i64 (e3 : Int)] 31) = h11 at *
          generalize h10.size = q11 at *
          refine eff_callF rfl ((one_any [e1, e2, e3] (by simp) t11).mono ?_)
          rintro v12 h12 ⟨rfl, rfl⟩
          simp only [T.tv, seval]
          exact X4.trans E2
        | false =>
          simp only [T.tv, seval]
          refine eff_callF rfl ((rfield_any nd lb).mono ?_)
          rintro v9 h9 ⟨rfl, rfl⟩
          simp only [T.tv, seval]
          refine eff_callF rfl ((unless_any (fieldP nd) 9).mono ?_)
          rintro v10 h10 ⟨rfl, rfl⟩
          rw [show (false || fieldP nd) = fieldP nd from rfl]
          generalize unl i2 7 = e1 at *
          generalize unl true 8 = e2 at *
          generalize unl (fieldP nd) 9 = e3 at *
          simp only [T.tv]
          refine eff_lits T.slT_80 rfl rfl (by simp []) ?_
          simp only [T.tv, seval]
          have E2 := Ext.push h10 (.cells #[.int .i64 (e1 : Int), .int .i64 (e2 : Int), .int .i64 (e3 : Int)] 31)
          have t11 : Sl (h10.push (.cells #[.int .i64 (e1 : Int), .int .i64 (e2 : Int), .int .i64 (e3 : Int)] 31)) (.slice (some ⟨h10.size, 0, none⟩) 3 3) (([e1, e2, e3] : List Nat).map fun t : Nat => .int .i64 (t : Int)) := errs_sl (es := [e1, e2, e3]) (Rd_new (vs := [.int .i64 (e1 : Int), .int .i64 (e2 : Int), .int .i64 (e3 : Int)]))
          generalize h10.push (.cells #[.int .i64 (e1 : Int), .int .i64 (e2 : Int), .int .i64 (e3 : Int)] 31) = h11 at *
          generalize h10.size = q11 at *
          refine eff_callF rfl ((one_any [e1, e2, e3] (by simp) t11).mono ?_)
          rintro v12 h12 ⟨rfl, rfl⟩
          simp only [T.tv, seval]
          exact X4.trans E2
    simp (disch := omega) only [T.tv, va, seval]
    refine eff_callF rfl ((rmember_any na false la).mono ?_)
    rintro v6 h6 ⟨rfl, rfl⟩
    have hd : decide ((0 : Int) < ((memP na false : Nat) : Int)) = decide (0 < memP na false) := decide_eq_decide.2 (by omega)
    by_cases m1 : 0 < memP na false
    case pos =>
      cases i1 with
      | false =>
        have fin : firstE [unl false 7, unl true 8, unl (ok || fieldP nd) 9] = (if (false : Bool) = false ∨ i2 = false then 7 else if memP na true = 0 ∧ memP na false = 0 then 8 else if ok = false ∧ fieldP nd = false then 9 else 0) := by
          rw [if_pos (.inl rfl)]; rfl
        rw [← fin]
        simp (disch := omega) only [C.rk_constant_gos, T.tv, seval, va]
        refine eff_callF rfl ((unless_any false 7).mono ?_)
        rintro v7 h7 ⟨rfl, rfl⟩
        simp only [T.tv, seval]
        refine eff_callF rfl ((unless_any true 8).mono ?_)
        rintro v8 h8 ⟨rfl, rfl⟩
        cases ok with
        | true =>
          simp only [T.tv, seval]
          refine eff_callF rfl ((unless_any true 9).mono ?_)
          rintro v10 h10 ⟨rfl, rfl⟩
          rw [show (true || fieldP nd) = true from rfl]
          generalize unl false 7 = e1 at *
          generalize unl true 8 = e2 at *
          generalize unl true 9 = e3 at *
          simp only [T.tv]
          refine eff_lits T.slT_80 rfl rfl (by simp []) ?_
          simp only [T.tv, seval]
          have E2 := Ext.push h10 (.cells #[.int .i64 (e1 : Int), .int .i64 (e2 : Int), .int .i64 (e3 : Int)] 31)
          have t11 : Sl (h10.push (.cells #[.int .i64 (e1 : Int), .int .i64 (e2 : Int), .int .i64 (e3 : Int)] 31)) (.slice (some ⟨h10.size, 0, none⟩) 3 3) (([e1, e2, e3] : List Nat).map fun t : Nat => .int .i64 (t : Int)) := errs_sl (es := [e1, e2, e3]) (Rd_new (vs := [.int .i64 (e1 : Int), .int .i64 (e2 : Int), .int .i64 (e3 : Int)]))
          generalize h10.push (.cells #[.int .i64 (e1 : Int), .int .i64 (e2 : Int), .int .i64 (e3 : Int)] 31) = h11 at *
          generalize h10.size = q11 at *
          refine eff_callF rfl ((one_any [e1, e2, e3] (by simp) t11).mono ?_)
          rintro v12 h12 ⟨rfl, rfl⟩
          simp only [T.tv, seval]
          exact X4.trans E2
        | false =>
          simp only [T.tv, seval]
          refine eff_callF rfl ((rfield_any nd lb).mono ?_)
          rintro v9 h9 ⟨rfl, rfl⟩
          simp only [T.tv, seval]
          refine eff_callF rfl ((unless_any (fieldP nd) 9).mono ?_)
          rintro v10 h10 ⟨rfl, rfl⟩
          rw [show (false || fieldP nd) = fieldP nd from rfl]
          generalize unl false 7 = e1 at *
          generalize unl true 8 = e2 at *
          generalize unl (fieldP nd) 9 = e3 at *
          simp only [T.tv]
          refine eff_lits T.slT_80 rfl rfl (by simp []) ?_
          simp only [T.tv, seval]
          have E2 := Ext.push h10 (.cells #[.int .i64 (e1 : Int), .int .i64 (e2 : Int), .int .i64 (e3 : Int)] 31)
          have t11 : Sl (h10.push (.cells #[.int .i64 (e1 : Int), .int .i64 (e2 : Int), .int .i64 (e3 : Int)] 31)) (.slice (some ⟨h10.size, 0, none⟩) 3 3) (([e1, e2, e3] : List Nat).map fun t : Nat => .int .i64 (t : Int)) := errs_sl (es := [e1, e2, e3]) (Rd_new (vs := [.int .i64 (e1 : Int), .int .i64 (e2 : Int), .int .i64 (e3 : Int)]))
          generalize h10.push (.cells #[.int .i64 (e1 : Int), .int .i64 (e2 : Int), .int .i64 (e3 : Int)] 31) = h11 at *
          generalize h10.size = q11 at *
          refine eff_callF rfl ((one_any [e1, e2, e3] (by simp) t11).mono ?_)
          rintro v12 h12 ⟨rfl, rfl⟩
          simp only [T.tv, seval]
          exact X4.trans E2
      | true =>
        have fin : firstE [unl i2 7, unl true 8, unl (ok || fieldP nd) 9] = (if (true : Bool) = false ∨ i2 = false then 7 else if memP na true = 0 ∧ memP na false = 0 then 8 else if ok = false ∧ fieldP nd = false then 9 else 0) := by
          have hn : (memP na true = 0 ∧ memP na false = 0) ↔ true = false := by exact ⟨fun h => absurd h.2 (by omega), fun h => absurd h (by decide)⟩
          simp only [hn]
          cases i2 <;> cases ok <;> cases fieldP nd <;> rfl
        rw [← fin]
        simp (disch := omega) only [C.rk_constant_gos, T.tv, seval, va]
        refine eff_callF rfl ((unless_any i2 7).mono ?_)
        rintro v7 h7 ⟨rfl, rfl⟩
        simp only [T.tv, seval]
        refine eff_callF rfl ((unless_any true 8).mono ?_)
        rintro v8 h8 ⟨rfl, rfl⟩
        cases ok with
        | true =>
          simp only [T.tv, seval]
          refine eff_callF rfl ((unless_any true 9).mono ?_)
          rintro v10 h10 ⟨rfl, rfl⟩
          rw [show (true || fieldP nd) = true from rfl]
          generalize unl i2 7 = e1 at *
          generalize unl true 8 = e2 at *
          generalize unl true 9 = e3 at *
          simp only [T.tv]
          refine eff_lits T.slT_80 rfl rfl (by simp []) ?_
          simp only [T.tv, seval]
          have E2 := Ext.push h10 (.cells #[.int .i64 (e1 : Int), .int .i64 (e2 : Int), .int .i64 (e3 : Int)] 31)
          have t11 : Sl (h10.push (.cells #[.int .i64 (e1 : Int), .int .i64 (e2 : Int), .int .i64 (e3 : Int)] 31)) (.slice (some ⟨h10.size, 0, none⟩) 3 3) (([e1, e2, e3] : List Nat).map fun t : Nat => .int .i64 (t : Int)) := errs_sl (es := [e1, e2, e3]) (Rd_new (vs := [.int .i64 (e1 : Int), .int .i64 (e2 : Int), .int .i64 (e3 : Int)]))
          generalize h10.push (.cells #[.int .i64 (e1 : Int), .int .i64 (e2 : Int), .int .i64 (e3 : Int)] 31) = h11 at *
          generalize h10.size = q11 at *
          refine eff_callF rfl ((one_any [e1, e2, e3] (by simp) t11).mono ?_)
          rintro v12 h12 ⟨rfl, rfl⟩
          simp only [T.tv, seval]
          exact X4.trans E2
        | false =>
          simp only [T.tv, seval]
          refine eff_callF rfl ((rfield_any nd lb).mono ?_)
          rintro v9 h9 ⟨rfl, rfl⟩
          simp only [T.tv, seval]
          refine eff_callF rfl ((unless_any (fieldP nd) 9).mono ?_)
          rintro v10 h10 ⟨rfl, rfl⟩
          rw [show (false || fieldP nd) = fieldP nd from rfl]
          generalize unl i2 7 = e1 at *
          generalize unl true 8 = e2 at *
          generalize unl (fieldP nd) 9 = e3 at *
          simp only [T.tv]
          refine eff_lits T.slT_80 rfl rfl (by simp []) ?_
          simp only [T.tv, seval]
          have E2 := Ext.push h10 (.cells #[.int .i64 (e1 : Int), .int .i64 (e2 : Int), .int .i64 (e3 : Int)] 31)
          have t11 : Sl (h10.push (.cells #[.int .i64 (e1 : Int), .int .i64 (e2 : Int), .int .i64 (e3 : Int)] 31)) (.slice (some ⟨h10.size, 0, none⟩) 3 3) (([e1, e2, e3] : List Nat).map fun t : Nat => .int .i64 (t : Int)) := errs_sl (es := [e1, e2, e3]) (Rd_new (vs := [.int .i64 (e1 : Int), .int .i64 (e2 : Int), .int .i64 (e3 : Int)]))
          generalize h10.push (.cells #[.int .i64 (e1 : Int), .int .i64 (e2 : Int), .int .i64 (e3 : Int)] 31) = h11 at *
          generalize h10.size = q11 at *
          refine eff_callF rfl ((one_any [e1, e2, e3] (by simp) t11).mono ?_)
          rintro v12 h12 ⟨rfl, rfl⟩
          simp only [T.tv, seval]
          exact X4.trans E2
    cases i1 with
    | false =>
      have fin : firstE [unl false 7, unl false 8, unl (ok || fieldP nd) 9] = (if (false : Bool) = false ∨ i2 = false then 7 else if memP na true = 0 ∧ memP na false = 0 then 8 else if ok = false ∧ fieldP nd = false then 9 else 0) := by
        rw [if_pos (.inl rfl)]; rfl
      rw [← fin]
      simp (disch := omega) only [C.rk_constant_gos, T.tv, seval, va]
      refine eff_callF rfl ((unless_any false 7).mono ?_)
      rintro v7 h7 ⟨rfl, rfl⟩
      simp only [T.tv, seval]
      refine eff_callF rfl ((unless_any false 8).mono ?_)
      rintro v8 h8 ⟨rfl, rfl⟩
      cases ok with
      | true =>
        simp only [T.tv, seval]
        refine eff_callF rfl ((unless_any true 9).mono ?_)
        rintro v10 h10 ⟨rfl, rfl⟩
        rw [show (true || fieldP nd) = true from rfl]
        generalize unl false 7 = e1 at *
        generalize unl false 8 = e2 at *
        generalize unl true 9 = e3 at *
        simp only [T.tv]
        refine eff_lits T.slT_80 rfl rfl (by simp []) ?_
        simp only [T.tv, seval]
        have E2 := Ext.push h10 (.cells #[.int .i64 (e1 : Int), .int .i64 (e2 : Int), .int .i64 (e3 : Int)] 31)
        have t11 : Sl (h10.push (.cells #[.int .i64 (e1 : Int), .int .i64 (e2 : Int), .int .i64 (e3 : Int)] 31)) (.slice (some ⟨h10.size, 0, none⟩) 3 3) (([e1, e2, e3] : List Nat).map fun t : Nat => .int .i64 (t : Int)) := errs_sl (es := [e1, e2, e3]) (Rd_new (vs := [.int .i64 (e1 : Int), .int .i64 (e2 : Int), .int .i64 (e3 : Int)]))
        generalize h10.push (.cells #[.int .i64 (e1 : Int), .int .i64 (e2 : Int), .int .i64 (e3 : Int)] 31) = h11 at *
        generalize h10.size = q11 at *
        refine eff_callF rfl ((one_any [e1, e2, e3] (by simp) t11).mono ?_)
        rintro v12 h12 ⟨rfl, rfl⟩
        simp only [T.tv, seval]
        exact X4.trans E2
      | false =>
        simp only [T.tv, seval]
        refine eff_callF rfl ((rfield_any nd lb).mono ?_)
        rintro v9 h9 ⟨rfl, rfl⟩
        simp only [T.tv, seval]
        refine eff_callF rfl ((unless_any (fieldP nd) 9).mono ?_)
        rintro v10 h10 ⟨rfl, rfl⟩
        rw [show (false || fieldP nd) = fieldP nd from rfl]
        generalize unl false 7 = e1 at *
        generalize unl false 8 = e2 at *
        generalize unl (fieldP nd) 9 = e3 at *
        simp only [T.tv]
        refine eff_lits T.slT_80 rfl rfl (by simp []) ?_
        simp only [T.tv, seval]
        have E2 := Ext.push h10 (.cells #[.int .i64 (e1 : Int), .int .i64 (e2 : Int), .int .i64 (e3 : Int)] 31)
        have t11 : Sl (h10.push (.cells #[.int .i64 (e1 : Int), .int .i64 (e2 : Int), .int .i64 (e3 : Int)] 31)) (.slice (some ⟨h10.size, 0, none⟩) 3 3) (([e1, e2, e3] : List Nat).map fun t : Nat => .int .i64 (t : Int)) := errs_sl (es := [e1, e2, e3]) (Rd_new (vs := [.int .i64 (e1 : Int), .int .i64 (e2 : Int), .int .i64 (e3 : Int)]))
        generalize h10.push (.cells #[.int .i64 (e1 : Int), .int .i64 (e2 : Int), .int .i64 (e3 : Int)] 31) = h11 at *
        generalize h10.size = q11 at *
        refine eff_callF rfl ((one_any [e1, e2, e3] (by simp) t11).mono ?_)
        rintro v12 h12 ⟨rfl, rfl⟩
        simp only [T.tv, seval]
        exact X4.trans E2
    | true =>
      have fin : firstE [unl i2 7, unl false 8, unl (ok || fieldP nd) 9] = (if (true : Bool) = false ∨ i2 = false then 7 else if memP na true = 0 ∧ memP na false = 0 then 8 else if ok = false ∧ fieldP nd = false then 9 else 0) := by
        have hn : (memP na true = 0 ∧ memP na false = 0) ↔ false = false := by exact ⟨fun _ => rfl, fun _ => ⟨by omega, by omega⟩⟩
        simp only [hn]
        cases i2 <;> cases ok <;> cases fieldP nd <;> rfl
      rw [← fin]
      simp (disch := omega) only [C.rk_constant_gos, T.tv, seval, va]
      refine eff_callF rfl ((unless_any i2 7).mono ?_)
      rintro v7 h7 ⟨rfl, rfl⟩
      simp only [T.tv, seval]
      refine eff_callF rfl ((unless_any false 8).mono ?_)
      rintro v8 h8 ⟨rfl, rfl⟩
      cases ok with
      | true =>
        simp only [T.tv, seval]
        refine eff_callF rfl ((unless_any true 9).mono ?_)
        rintro v10 h10 ⟨rfl, rfl⟩
        rw [show (true || fieldP nd) = true from rfl]
        generalize unl i2 7 = e1 at *
        generalize unl false 8 = e2 at *
        generalize unl true 9 = e3 at *
        simp only [T.tv]
        refine eff_lits T.slT_80 rfl rfl (by simp []) ?_
        simp only [T.tv, seval]
        have E2 := Ext.push h10 (.cells #[.int .i64 (e1 : Int), .int .i64 (e2 : Int), .int .i64 (e3 : Int)] 31)
        have t11 : Sl (h10.push (.cells #[.int .i64 (e1 : Int), .int .i64 (e2 : Int), .int .i64 (e3 : Int)] 31)) (.slice (some ⟨h10.size, 0, none⟩) 3 3) (([e1, e2, e3] : List Nat).map fun t : Nat => .int .i64 (t : Int)) := errs_sl (es := [e1, e2, e3]) (Rd_new (vs := [.int .i64 (e1 : Int), .int .i64 (e2 : Int), .int .i64 (e3 : Int)]))
        generalize h10.push (.cells #[.int .i64 (e1 : Int), .int .i64 (e2 : Int), .int .i64 (e3 : Int)] 31) = h11 at *
        generalize h10.size = q11 at *
        refine eff_callF rfl ((one_any [e1, e2, e3] (by simp) t11).mono ?_)
        rintro v12 h12 ⟨rfl, rfl⟩
        simp only [T.tv, seval]
        exact X4.trans E2
      | false =>
        simp only [T.tv, seval]
        refine eff_callF rfl ((rfield_any nd lb).mono ?_)
        rintro v9 h9 ⟨rfl, rfl⟩
        simp only [T.tv, seval]
        refine eff_callF rfl ((unless_any (fieldP nd) 9).mono ?_)
        rintro v10 h10 ⟨rfl, rfl⟩
        rw [show (false || fieldP nd) = fieldP nd from rfl]
        generalize unl i2 7 = e1 at *
        generalize unl false 8 = e2 at *
        generalize unl (fieldP nd) 9 = e3 at *
        simp only [T.tv]
        refine eff_lits T.slT_80 rfl rfl (by simp []) ?_
        simp only [T.tv, seval]
        have E2 := Ext.push h10 (.cells #[.int .i64 (e1 : Int), .int .i64 (e2 : Int), .int .i64 (e3 : Int)] 31)
        have t11 : Sl (h10.push (.cells #[.int .i64 (e1 : Int), .int .i64 (e2 : Int), .int .i64 (e3 : Int)] 31)) (.slice (some ⟨h10.size, 0, none⟩) 3 3) (([e1, e2, e3] : List Nat).map fun t : Nat => .int .i64 (t : Int)) := errs_sl (es := [e1, e2, e3]) (Rd_new (vs := [.int .i64 (e1 : Int), .int .i64 (e2 : Int), .int .i64 (e3 : Int)]))
        generalize h10.push (.cells #[.int .i64 (e1 : Int), .int .i64 (e2 : Int), .int .i64 (e3 : Int)] 31) = h11 at *
        generalize h10.size = q11 at *
        refine eff_callF rfl ((one_any [e1, e2, e3] (by simp) t11).mono ?_)
        rintro v12 h12 ⟨rfl, rfl⟩
        simp only [T.tv, seval]
        exact X4.trans E2
  rw [if_neg t12, if_neg t9]
  simp (disch := omega) only [C.rk_constant_gos, T.tv, ↓reduceIte, Nat.reduceEqDiff, reduceCtorEq, k0, va]
  exact ⟨E, rfl⟩
end
end Go.Proofs.YtflocjbhcjhenaaGreatDoor
namespace Go.Proofs.YtflocjbhcjhenaaGreatDoor
open Go.Vc
set_option maxRecDepth 100000
theorem bit_one (f i : Nat) : (f &&& 2 ^ i = 2 ^ i) ↔ f &&& 2 ^ i ≠ 0 := by
  have h : 0 < 2 ^ i := Nat.two_pow_pos i
  by_cases hb : f.testBit i = true
  · have e : f &&& 2 ^ i = 2 ^ i := by
      apply Nat.eq_of_testBit_eq
      intro j
      rw [Nat.testBit_and, Nat.testBit_two_pow]
      by_cases hj : i = j
      · subst hj; simp [hb]
      · simp [hj]
    rw [e]
    exact ⟨fun _ => by omega, fun _ => rfl⟩
  · have e : f &&& 2 ^ i = 0 := by
      apply Nat.eq_of_testBit_eq
      intro j
      rw [Nat.testBit_and, Nat.testBit_two_pow]
      by_cases hj : i = j
      · subst hj; simp [hb]
      · simp [hj]
    rw [e]
    exact ⟨fun x => by omega, fun x => absurd rfl x⟩
theorem bit_8 (f : Nat) : decide (f &&& 8 = 8) = decide (f &&& 8 ≠ 0) := decide_eq_decide.2 (bit_one f 3)
theorem bit_16 (f : Nat) : decide (f &&& 16 = 16) = decide (f &&& 16 ≠ 0) := decide_eq_decide.2 (bit_one f 4)
theorem bit_512 (f : Nat) : decide (f &&& 512 = 512) = decide (f &&& 512 ≠ 0) := decide_eq_decide.2 (bit_one f 9)
theorem bit_1024 (f : Nat) : decide (f &&& 1024 = 1024) = decide (f &&& 1024 ≠ 0) := decide_eq_decide.2 (bit_one f 10)
section
variable {h : Heap} {g : Nat} {c : Cls} {vp vi vf vm : Value}
theorem has_8 (f : Nat) (hf : f < 65536) : HCalls Tryz.prog 41 #[.int .u16 (f : Int), .int .u16 8] h fun v h' => h' = h ∧ v = .bool (decide (f &&& 8 ≠ 0)) := by rw [← bit_8]; exact has_any f 8 hf (by decide)
theorem has_16 (f : Nat) (hf : f < 65536) : HCalls Tryz.prog 41 #[.int .u16 (f : Int), .int .u16 16] h fun v h' => h' = h ∧ v = .bool (decide (f &&& 16 ≠ 0)) := by rw [← bit_16]; exact has_any f 16 hf (by decide)
theorem has_512 (f : Nat) (hf : f < 65536) : HCalls Tryz.prog 41 #[.int .u16 (f : Int), .int .u16 512] h fun v h' => h' = h ∧ v = .bool (decide (f &&& 512 ≠ 0)) := by rw [← bit_512]; exact has_any f 512 hf (by decide)
theorem has_1024 (f : Nat) (hf : f < 65536) : HCalls Tryz.prog 41 #[.int .u16 (f : Int), .int .u16 1024] h fun v h' => h' = h ∧ v = .bool (decide (f &&& 1024 ≠ 0)) := by rw [← bit_1024]; exact has_any f 1024 hf (by decide)
set_option maxHeartbeats 4000000 in
theorem rkflags_any (H : RB h g c vp vi vf vm) (F : CF c) (f : Nat) (hf : f < 65536) (na : List UInt8) :
    HCalls Tryz.prog 45 #[rkV g, .int .u16 (f : Int), str na] h fun v h' => h' = h ∧ v = .bool (mflK c.flags f (memP na true)) := by
  refine C.rk_flags_calls (args := [rkV g, .int .u16 (f : Int), str na]) rfl ?_
  have c2 : cellAt h ⟨g, 2, none⟩ = some (.int .u16 (c.flags : Int)) := H.at rfl
  have a3 : bitsV .and .u16 (f : Int) 1280 = ((f &&& 1280 : Nat) : Int) := and16 _ 1280 hf (by decide)
  have a5 : bitsV .and .u16 (f : Int) 3391 = ((f &&& 3391 : Nat) : Int) := and16 _ 3391 hf (by decide)
  have a7 : bitsV .and .u16 (f : Int) 314 = ((f &&& 314 : Nat) : Int) := and16 _ 314 hf (by decide)
  have a8 : bitsV .and .u16 (f : Int) 312 = ((f &&& 312 : Nat) : Int) := and16 _ 312 hf (by decide)
  have k3 := memP_3 na
  have k2 := memP_2 na
  have H8 := fun h => has_8 (h := h) f hf
  have HF := fun h => has_1024 (h := h) f hf
  have HC := fun h => has_512 (h := h) c.flags F.fit.flags
  have HD := fun h => has_1024 (h := h) c.flags F.fit.flags
  unfold mflK
  generalize memP na true = kd at *
  generalize c.flags &&& 512 = z1 at *
  generalize c.flags &&& 1024 = z2 at *
  generalize f &&& 1280 = z3 at *
  generalize f &&& 8 = z4 at *
  generalize f &&& 3391 = z5 at *
  generalize f &&& 1024 = z6 at *
  generalize f &&& 314 = z7 at *
  generalize f &&& 312 = z8 at *
  by_cases n3 : na = [60, 99, 108, 105, 110, 105, 116, 62]
  · rw [if_pos (k3.2 n3)]
    simp only [C.rk_flags_gos, T.tv, seval, eq_true n3]
    refine eff_callF rfl ((H8 h).mono ?_)
    rintro v1 h1 ⟨rfl, rfl⟩
    by_cases y4 : z4 = 0
    · rw [show decide (z4 ≠ 0) = false by simp [y4]]
      simp only [T.tv, seval]
      simp
    · rw [show decide (z4 ≠ 0) = true by simp [y4]]
      by_cases y3 : z3 = 0
      all_goals
        simp (disch := omega) only [T.tv, a3, seval, va]
        simp []
  rw [if_neg (fun x => n3 (k3.1 x))]
  simp only [C.rk_flags_gos, T.tv, seval, eq_false n3, c2]
  refine eff_callF rfl ((HC h).mono ?_)
  rintro v1 h1 ⟨rfl, rfl⟩
  by_cases y1 : z1 ≠ 0
  · rw [decide_eq_true y1, if_pos y1]
    by_cases n2 : na = [60, 105, 110, 105, 116, 62]
    · have kk := k2.2 n2
      by_cases y5 : z5 = 1025
      all_goals
        simp (disch := omega) only [C.rk_flags_gos, T.tv, seval, a5, eq_true n2, va]
        simp []
    · have kk : ¬ kd = 2 := fun x => n2 (k2.1 x)
      by_cases y5 : z5 = 1025
      all_goals
        simp (disch := omega) only [C.rk_flags_gos, T.tv, seval, a5, eq_false n2, va]
        simp []
  rw [decide_eq_false y1, if_neg y1]
  simp only [C.rk_flags_gos, T.tv, seval]
  refine eff_callF rfl ((rmost_any f hf).mono ?_)
  rintro v2 h2 ⟨rfl, rfl⟩
  cases mostP f [1, 2, 4] with
  | false =>
    rw [if_pos rfl]
    simp only [C.rk_flags_gos, T.tv, seval]
  | true =>
    rw [if_neg (by decide)]
    simp only [C.rk_flags_gos, T.tv, seval]
    refine eff_callF rfl ((HF h2).mono ?_)
    rintro v3 h3 ⟨rfl, rfl⟩
    by_cases y6 : z6 ≠ 0
    · rw [decide_eq_true y6, if_pos y6]
      by_cases y7 : z7 = 0
      · simp (disch := omega) only [C.rk_flags_gos, T.tv, seval, a7, c2, va]
        refine eff_callF rfl ((HD h3).mono ?_)
        rintro v4 h4 ⟨rfl, rfl⟩
        by_cases y2 : z2 = 0
        · rw [show decide (z2 ≠ 0) = false by simp [y2]]
          simp only [T.tv, seval]
          simp
        · rw [show decide (z2 ≠ 0) = true by simp [y2]]
          by_cases n2 : na = [60, 105, 110, 105, 116, 62]
          · have kk := k2.2 n2
            simp (disch := omega) only [T.tv, eq_true n2, seval, va]
            simp []
          · have kk : ¬ kd = 2 := fun x => n2 (k2.1 x)
            simp (disch := omega) only [T.tv, eq_false n2, seval, va]
            simp []
      · simp (disch := omega) only [C.rk_flags_gos, T.tv, seval, a7, va]
        simp []
    · rw [decide_eq_false y6, if_neg y6]
      by_cases n2 : na = [60, 105, 110, 105, 116, 62]
      · rw [if_pos (k2.2 n2)]
        by_cases y8 : z8 = 0
        all_goals
          simp (disch := omega) only [C.rk_flags_gos, T.tv, seval, a8, eq_true n2, va]
          try simp [y8]
      · rw [if_neg (fun x => n2 (k2.1 x))]
        simp only [C.rk_flags_gos, T.tv, seval, eq_false n2]
        try rfl
end
end Go.Proofs.YtflocjbhcjhenaaGreatDoor
namespace Go.Proofs.YtflocjbhcjhenaaGreatDoor
open Go.Vc
set_option maxRecDepth 100000
theorem badH_false {ats : List Int} {L : Int} {x : Hnd} : badH ats L x = false ↔ (x.from' ∈ ats ∨ x.from' = L) ∧ (x.to ∈ ats ∨ x.to = L) ∧ x.target ∈ ats ∧ x.from' < x.to := by
  unfold badH
  rw [Bool.not_eq_false', Bool.and_eq_true, Bool.and_eq_true, Bool.and_eq_true, decide_eq_true_eq, decide_eq_true_eq, decide_eq_true_eq, decide_eq_true_eq]
  exact ⟨fun h => ⟨h.1.1, h.1.2, h.2.1, h.2.2⟩, fun h => ⟨⟨h.1, h.2.1⟩, h.2.2.1, h.2.2.2⟩⟩
def goodH (ats : List Int) (L : Int) (x : Hnd) : Prop := 0 ≤ x.from' ∧ x.to ≤ L ∧ x.from' < x.to ∧ 0 ≤ x.target ∧ x.target < L ∧ x.from' ∈ ats ∧ (L ≤ x.to ∨ x.to ∈ ats) ∧ x.target ∈ ats
theorem bad_good {ats : List Int} {L : Int} {x : Hnd} (hb : ∀ a ∈ ats, 0 ≤ a ∧ a < L) : badH ats L x = false ↔ goodH ats L x := by
  rw [badH_false]
  constructor
  · rintro ⟨h1, h2, h3, h4⟩
    have b3 := hb _ h3
    have t1 : x.to ≤ L := by
      rcases h2 with h2 | h2
      · have := hb _ h2; omega
      · omega
    have f1 : x.from' ∈ ats := h1.resolve_right (by omega)
    have b1 := hb _ f1
    refine ⟨b1.1, t1, h4, b3.1, b3.2, f1, ?_, h3⟩
    rcases h2 with h2 | h2
    · exact .inr h2
    · exact .inl (by omega)
  · rintro ⟨h1, h2, h3, h4, h5, h6, h7, h8⟩
    refine ⟨.inl h6, ?_, h8, h3⟩
    rcases h7 with h7 | h7
    · exact .inr (by omega)
    · exact .inl h7
theorem bad_of {ats : List Int} {L : Int} {x : Hnd} (hb : ∀ a ∈ ats, 0 ≤ a ∧ a < L) (h : ¬ goodH ats L x) : badH ats L x = true := by
  cases hh : badH ats L x with
  | true => rfl
  | false => exact absurd ((bad_good hb).1 hh) h
section
variable {h : Heap} {g : Nat} {c : Cls} {vp vi vf vm : Value}
set_option maxHeartbeats 8000000 in
theorem rkcode_any (H : RB h g c vp vi vf vm) (F : CF c) (cd : Cde) {vH : Value} (hcf : cd.Fit) (hH : SlN h 4 vH cd.hs.length (flatH cd.hs)) (hbl : cd.bytes.length ≤ 1073741824) (hhl : cd.hs.length ≤ 1073741824) :
    HCalls Tryz.prog 47 #[rkV g, cdA cd vH] h fun v h' => Ext h h' ∧ v = .tuple #[.int .i64 (codK c.pool cd).1, .int .i64 (codK c.pool cd).2] := by
  obtain ⟨_, ah, ch, rfl, _⟩ := id hH
  refine C.rk_code_calls (args := [rkV g, cdA cd (.slice ah cd.hs.length ch)]) rfl ?_
  simp only [C.rk_code_gos, T.tv]
  refine eff_box ?_
  have E := Ext.push h (.cells #[.int .i64 cd.maxS, .int .i64 cd.maxL, str cd.bytes, .slice ah cd.hs.length ch, str cd.map] 41)
  have qc : (h.push (.cells #[.int .i64 cd.maxS, .int .i64 cd.maxL, str cd.bytes, .slice ah cd.hs.length ch, str cd.map] 41))[h.size]? = some (.cells #[.int .i64 cd.maxS, .int .i64 cd.maxL, str cd.bytes, .slice ah cd.hs.length ch, str cd.map] 41 (0, 0)) := by simp
  simp only [C.rk_code_gos, T.tv, seval]
  generalize h.push (.cells #[.int .i64 cd.maxS, .int .i64 cd.maxL, str cd.bytes, .slice ah cd.hs.length ch, str cd.map] 41) = h2 at *
  generalize h.size = q2 at *
  have key : ∀ h3, Ext h2 h3 → cellAt h3 ⟨q2, 1, none⟩ = some (.int .i64 cd.maxL) ∧ cellAt h3 ⟨q2, 2, none⟩ = some (str cd.bytes) ∧ cellAt h3 ⟨q2, 3, none⟩ = some (.slice ah cd.hs.length ch) ∧ RB h3 g c vp vi vf vm := by
    intro h3 x3
    have b2 := Fr_blk x3 qc _root_.id
    refine ⟨?_, ?_, ?_, H.ext (E.trans x3)⟩
    all_goals rw [cellAt_of b2]; rfl
  obtain ⟨k1, k2, k3, H2⟩ := key h2 (Ext.refl _)
  simp only [T.tv, k2]
  refine eff_callF rfl ((rdecode_any cd.bytes h2 hbl).mono ?_)
  rintro v3 h3 ⟨x3, sv, rfl, hIF⟩
  have hI := hIF.insC
  have hat := decD_at cd.bytes
  have hfit := decD_fit cd.bytes hbl
  have hnum := decD_num cd.bytes
  have hL64 : (decD cd.bytes).2.1 = 0 → cd.bytes.length ≤ 65535 := by
    intro h0
    by_cases hh : cd.bytes.length = 0 ∨ 65535 < cd.bytes.length
    · unfold decD at h0; rw [if_pos hh] at h0; cases h0
    · omega
  have hat' : ∀ a ∈ (decD cd.bytes).1.map In.at', 0 ≤ a ∧ a < (cd.bytes.length : Int) := by
    intro a ha
    obtain ⟨x, hx, rfl⟩ := List.mem_map.1 ha
    exact hat x hx
  clear hIF hat
  unfold codK
  generalize (decD cd.bytes).2.1 = e1 at *
  generalize (decD cd.bytes).2.2 = e2 at *
  generalize (decD cd.bytes).1 = l at *
  have xx3 := E.trans x3
  by_cases he1 : e1 ≠ 0
  · rw [if_pos he1]
    simp (disch := omega) only [C.rk_code_gos, T.tv, seval, va]
    exact xx3
  rw [if_neg he1]
  have hL := hL64 (by omega)
  obtain ⟨k1, k2, k3, H3⟩ := key h3 x3
  have c5 : cellAt h3 ⟨g, 5, none⟩ = some vp := H3.at rfl
  obtain ⟨_, _, hr2, _⟩ := id hI
  obtain ⟨_, al, cl, rfl, _⟩ := hr2
  simp (disch := omega) only [C.rk_code_gos, T.tv, seval, c5, k1, va]
  refine eff_callF rfl ((rcheck_any l _ h3 hI hfit (by omega) cd.maxL (by have := hcf.l2; omega) F.len F.fit.pool F.txt H3.cls.p).mono ?_)
  rintro v4 h4 ⟨x4, rfl⟩
  have hck := checkP_01 c.pool cd.maxL l
  have xx4 := xx3.trans x4
  by_cases hk : (checkP c.pool cd.maxL l).1 ≠ 0
  · rw [if_pos hk]
    generalize checkP c.pool cd.maxL l = kk at *
    have hk' : kk.1 = 15 := by omega
    rw [hk']
    simp only [C.rk_code_gos, T.tv, seval, Int.reduceEq]
    exact xx4
  rw [if_neg hk]
  have hk' : (checkP c.pool cd.maxL l).1 = 0 := by omega
  rw [hk']
  generalize (checkP c.pool cd.maxL l).2 = k22 at *
  have x24 := x3.trans x4
  simp only [C.rk_code_gos, T.tv, seval]
  refine eff_make T.slT_103 rfl rfl (by decide) (by decide) (by decide) ?_
  intro cs z i' hi' hz' hcs
  have hzc : z.cells = #[.bool false] := by
    obtain ⟨i2, z2, e1, e2, e3, _⟩ := zr_spec T.zr_4
    rw [hi'] at e1; cases e1; rw [hz'] at e2; cases e2; exact e3
  rw [hzc, show ((65536 : Int)).toNat * 1 = 65536 from rfl, begV_zero] at hcs
  subst hcs
  have e5 := Ext.push h4 (.cells (begV 65536 []).toArray 4)
  have kb5 : (h4.push (.cells (begV 65536 []).toArray 4))[h4.size]? = some (.cells (begV 65536 []).toArray 4 (0, 0)) := by simp
  generalize h4.push (.cells (begV 65536 []).toArray 4) = h5 at *
  obtain ⟨gb, hgb⟩ : ∃ y, y = h4.size := ⟨_, rfl⟩
  rw [← hgb] at kb5 ⊢
  simp only [C.rk_code_gos, T.tv, seval]
  refine loop_intro [0, 3, 9, 44, 45, 46] (fun m ρ hc => ∃ i : Nat, m = l.length - i ∧ i ≤ l.length ∧
    ρ = [(0, rkV g), (3, .pointer (some ⟨q2, 0, none⟩)), (9, .slice (some ⟨gb, 0, none⟩) 65536 65536), (44, .slice al l.length cl), (45, .int .i64 (l.length : Int)), (46, .int .i64 (i : Int))] ∧ Ext h4 hc ∧
    hc[gb]? = some (.cells (begV 65536 ((l.take i).map In.at')).toArray 4 (0, 0))) ?_ ?_
  · simp only [T.tv, seval]
    exact ⟨_, 0, rfl, Nat.zero_le _, rfl, e5, by simpa using kb5⟩
  rintro m ρ hc ⟨i, rfl, hi, rfl, hx, hkb⟩
  by_cases hlt : i < l.length
  · have hlt' : (i : Int) < (l.length : Int) := by omega
    have w1 : IntKind.i64.wrap ((i : Int) + 1) = ((i + 1 : Nat) : Int) := by rw [wrap_i64 (by omega) (by omega)]; omega
    obtain ⟨b, o, c', vk, vt, heq, hrd0, sk, _, st, _⟩ := (hI.ext (x4.trans hx)).at hlt
    cases heq
    have hax := hat' (l.getD i in0).at' (List.mem_map_of_mem (getD_mem hlt))
    have hst := take_getD (l := l) (d := in0) hlt
    generalize l.getD i in0 = x at *
    obtain ⟨_, ak, ck, rfl, _⟩ := sk
    obtain ⟨_, bk, cb, rfl, _⟩ := st
    have hld := ld_agg T.ag_98 hrd0 rfl
    simp only [InV] at hld
    obtain ⟨p, hp⟩ : ∃ p : Nat, x.at' = (p : Int) := ⟨x.at'.toNat, by omega⟩
    rw [hp] at hld hax
    have hp6 : p < 65536 := by omega
    simp (disch := omega) only [C.rk_code_gos, T.tv, seval, hlt', hld]
    refine eff_alloc_z T.zr_98 ?_
    simp only [T.tv, seval]
    refine eff_store_new_z T.zr_98 rfl rfl rfl (by simp [Value.cells, oneCell]) rfl ?_
    intro h7 x7 _ hrd7 b7
    have c0 : cellAt h7 ⟨hc.size, 0, none⟩ = some (.int .i64 (p : Int)) := hrd7 0 _ rfl
    have hkb7 := Fr_blk x7 hkb _root_.id
    have p1 : (0 : Int) ≤ (p : Int) := by omega
    have p2 : (p : Int) < 65536 := by omega
    have hbc : cellAt h7 ⟨gb, p, none⟩ = some (.bool (((l.take i).map In.at').contains ((p : Nat) : Int))) := by
      rw [cellAt_of hkb7, List.getElem?_toArray]
      exact begV_at hp6 _
    simp (disch := omega) only [C.rk_code_gos, T.tv, seval, c0]
    refine eff_store1_z T.zr_4 rfl rfl rfl rfl rfl hbc (by simp [frozenAt, hkb7]) ?_
    have f8 : Fr (fun k => k = gb) h7 (setAt h7 ⟨gb, p, none⟩ (.bool true)) := Fr.set (S := fun k => k = gb) _ _ _ fun _ => rfl
    have kb8 := setAt_get (o := p) hkb7 (.bool true)
    rw [begV_set] at kb8
    generalize setAt h7 ⟨gb, p, none⟩ (.bool true) = h8 at *
    have x48 : Ext h4 h8 := Fr.trans (hx.trans x7) f8 (fun _ _ h => h) (fun k hk hS => by omega)
    simp only [C.rk_code_gos, T.tv, seval, w1]
    refine ⟨l.length - (i + 1), by omega, i + 1, rfl, by omega, rfl, x48, ?_⟩
    rw [hst, List.map_append, List.map_singleton, hp]
    exact kb8
  have hlt' : ¬ (i : Int) < (l.length : Int) := by omega
  rw [List.take_of_length_le (by omega)] at hkb
  generalize l.map In.at' = ats at *
  obtain ⟨k1, k2, k3, H5⟩ := key hc (x24.trans hx)
  simp only [C.rk_code_gos, T.tv, seval, hlt', k3]
  refine loop_intro [0, 3, 9, 56, 57, 58] (fun m ρ hd => ∃ i : Nat, m = cd.hs.length - i ∧ i ≤ cd.hs.length ∧
    ρ = [(0, rkV g), (3, .pointer (some ⟨q2, 0, none⟩)), (9, .slice (some ⟨gb, 0, none⟩) 65536 65536), (56, .slice ah cd.hs.length ch), (57, .int .i64 (cd.hs.length : Int)), (58, .int .i64 (i : Int))] ∧ Ext hc hd ∧
    hndK c.pool ats (cd.bytes.length : Int) 0 cd.hs = hndK c.pool ats (cd.bytes.length : Int) i (cd.hs.drop i)) ?_ ?_
  · simp only [T.tv, seval]
    exact ⟨_, 0, rfl, Nat.zero_le _, rfl, Ext.refl _, by simp⟩
  rintro m ρ hd ⟨j, rfl, hj, rfl, hxd, hhk⟩
  have xxd := (xx4.trans hx).trans hxd
  by_cases hjt : j < cd.hs.length
  case neg =>
    have hjt' : ¬ (j : Int) < (cd.hs.length : Int) := by omega
    rw [hhk, List.drop_of_length_le (by omega)]
    simp only [C.rk_code_gos, T.tv, seval, hjt']
    first | exact ⟨xxd, rfl⟩ | exact xxd
  have hjt' : (j : Int) < (cd.hs.length : Int) := by omega
  have w1 : IntKind.i64.wrap ((j : Int) + 1) = ((j + 1 : Nat) : Int) := by rw [wrap_i64 (by omega) (by omega)]; omega
  obtain ⟨b, o, c', heq, hrd, _⟩ := (hH.ext (by decide) xxd).at hjt
  cases heq
  rw [flatH_at hjt] at hrd
  rw [drop_getD (d := Hnd.zero) hjt, hndK] at hhk
  have hxf := hcf.hs _ (getD_mem (d := Hnd.zero) hjt)
  generalize cd.hs.getD j Hnd.zero = x at *
  have hld := ld_agg T.ag_86 hrd rfl
  simp only [Hnd.cells] at hld
  simp (disch := omega) only [C.rk_code_gos, T.tv, seval, hjt', hld]
  refine eff_alloc_z T.zr_86 ?_
  simp only [T.tv, seval]
  refine eff_store_new_z T.zr_86 rfl rfl rfl (by simp [Value.cells, oneCell]) rfl ?_
  intro h7 x7 _ hrd7 b7
  have c0 : cellAt h7 ⟨hd.size, 0, none⟩ = some (.int .i64 x.from') := hrd7 0 _ rfl
  have c1 : cellAt h7 ⟨hd.size, 1, none⟩ = some (.int .i64 x.to) := hrd7 1 _ rfl
  have c2 : cellAt h7 ⟨hd.size, 2, none⟩ = some (.int .i64 x.target) := hrd7 2 _ rfl
  have c3 : cellAt h7 ⟨hd.size, 3, none⟩ = some (.int .u16 (x.type : Int)) := hrd7 3 _ rfl
  have xx7 := xxd.trans x7
  obtain ⟨_, m2, _, H7⟩ := key h7 (((x24.trans hx).trans hxd).trans x7)
  have hkb7 := Fr_blk (hxd.trans x7) hkb _root_.id
  have bg : ∀ p : Nat, p < 65536 → cellAt h7 ⟨gb, p, none⟩ = some (.bool (decide ((p : Int) ∈ ats))) := by
    intro p hp
    rw [cellAt_of hkb7, List.getElem?_toArray, begV_at hp]
    simp
  clear hld hrd hrd7 b7
  generalize hd.size = qh at *
  have bad : badH ats (cd.bytes.length : Int) x = true → hndK c.pool ats (cd.bytes.length : Int) 0 cd.hs = (16, (j : Int)) := fun h => by rw [hhk, if_pos h]
  have bd := fun h => bad (bad_of hat' h)
  by_cases p1 : x.from' < 0
  · rw [bd (fun g => by have := g.1; omega)]
    simp (disch := omega) only [C.rk_code_gos, T.tv, seval, c0, va]
    exact xx7
  by_cases p2 : (cd.bytes.length : Int) < x.to
  · rw [bd (fun g => by have := g.2.1; omega)]
    simp (disch := omega) only [C.rk_code_gos, T.tv, seval, c0, c1, m2, va]
    exact xx7
  by_cases p3 : x.to ≤ x.from'
  · rw [bd (fun g => by have := g.2.2.1; omega)]
    simp (disch := omega) only [C.rk_code_gos, T.tv, seval, c0, c1, m2, va]
    exact xx7
  by_cases p4 : x.target < 0
  · rw [bd (fun g => by have := g.2.2.2.1; omega)]
    simp (disch := omega) only [C.rk_code_gos, T.tv, seval, c0, c1, c2, m2, va]
    exact xx7
  by_cases p5 : (cd.bytes.length : Int) ≤ x.target
  · rw [bd (fun g => by have := g.2.2.2.2.1; omega)]
    simp (disch := omega) only [C.rk_code_gos, T.tv, seval, c0, c1, c2, m2, va]
    exact xx7
  have f0 : 0 ≤ x.from' := by omega
  have f1 : x.from' < 65536 := by omega
  have b1 : cellAt h7 ⟨gb, x.from'.toNat, none⟩ = some (.bool (decide (x.from' ∈ ats))) := by
    have := bg x.from'.toNat (by omega)
    rw [Int.toNat_of_nonneg f0] at this
    exact this
  by_cases p6 : x.from' ∈ ats
  case neg =>
    rw [bd (fun g => p6 g.2.2.2.2.2.1)]
    rw [decide_eq_false p6] at b1
    simp (disch := omega) only [C.rk_code_gos, T.tv, seval, c0, c1, c2, m2, b1, va]
    exact xx7
  rw [decide_eq_true p6] at b1
  have g0 : 0 ≤ x.target := by omega
  have g1 : x.target < 65536 := by omega
  have b3 : cellAt h7 ⟨gb, x.target.toNat, none⟩ = some (.bool (decide (x.target ∈ ats))) := by
    have := bg x.target.toNat (by omega)
    rw [Int.toNat_of_nonneg g0] at this
    exact this
  by_cases p7 : x.to < (cd.bytes.length : Int)
  case pos =>
    have r0 : 0 ≤ x.to := by omega
    have r1 : x.to < 65536 := by omega
    have b2 : cellAt h7 ⟨gb, x.to.toNat, none⟩ = some (.bool (decide (x.to ∈ ats))) := by
      have := bg x.to.toNat (by omega)
      rw [Int.toNat_of_nonneg r0] at this
      exact this
    by_cases p8 : x.to ∈ ats
    case neg =>
      rw [bd (fun g => by
        rcases g.2.2.2.2.2.2.1 with h | h
        · omega
        · exact p8 h)]
      rw [decide_eq_false p8] at b2
      simp (disch := omega) only [C.rk_code_gos, T.tv, seval, c0, c1, c2, m2, b1, b2, va]
      exact xx7
    rw [decide_eq_true p8] at b2
    by_cases p9 : x.target ∈ ats
    case neg =>
      rw [bd (fun g => p9 g.2.2.2.2.2.2.2)]
      rw [decide_eq_false p9] at b3
      simp (disch := omega) only [C.rk_code_gos, T.tv, seval, c0, c1, c2, m2, b1, b2, b3, va]
      exact xx7
    rw [decide_eq_true p9] at b3
    have hgood := (bad_good hat').2 ⟨f0, by omega, by omega, g0, by omega, p6, .inr p8, p9⟩
    rw [if_neg (by rw [hgood]; decide)] at hhk
    obtain ⟨_, _, _, H7'⟩ := key h7 (((x24.trans hx).trans hxd).trans x7)
    by_cases t0 : x.type = 0
    case pos =>
      rw [if_neg (by simp [t0])] at hhk
      simp (disch := omega) only [C.rk_code_gos, T.tv, seval, c0, c1, c2, m2, b1, b2, b3, c3, w1, va]
      exact ⟨cd.hs.length - (j + 1), by omega, j + 1, rfl, by omega, rfl, hxd.trans x7, hhk⟩
    simp (disch := omega) only [C.rk_code_gos, T.tv, seval, c0, c1, c2, m2, b1, b2, b3, c3, va]
    refine eff_callF rfl ((rkclass_any H7' F x.type hxf.type).mono ?_)
    rintro v9 h9 ⟨rfl, rfl⟩
    cases hkk : (clsOfS c.pool x.type).2 with
    | true =>
      rw [hkk, if_neg (by simp)] at hhk
      simp only [C.rk_code_gos, T.tv, seval, w1]
      exact ⟨cd.hs.length - (j + 1), by omega, j + 1, rfl, by omega, rfl, hxd.trans x7, hhk⟩
    | false =>
      rw [hkk, if_pos ⟨t0, rfl⟩] at hhk
      rw [hhk]
      simp only [C.rk_code_gos, T.tv, seval]
      exact xx7
  by_cases p9 : x.target ∈ ats
  case neg =>
    rw [bd (fun g => p9 g.2.2.2.2.2.2.2)]
    rw [decide_eq_false p9] at b3
    simp (disch := omega) only [C.rk_code_gos, T.tv, seval, c0, c1, c2, m2, b1, b3, va]
    exact xx7
  rw [decide_eq_true p9] at b3
  have hgood := (bad_good hat').2 ⟨f0, by omega, by omega, g0, by omega, p6, .inl (by omega), p9⟩
  rw [if_neg (by rw [hgood]; decide)] at hhk
  obtain ⟨_, _, _, H7'⟩ := key h7 (((x24.trans hx).trans hxd).trans x7)
  by_cases t0 : x.type = 0
  case pos =>
    rw [if_neg (by simp [t0])] at hhk
    simp (disch := omega) only [C.rk_code_gos, T.tv, seval, c0, c1, c2, m2, b1, b3, c3, w1, va]
    exact ⟨cd.hs.length - (j + 1), by omega, j + 1, rfl, by omega, rfl, hxd.trans x7, hhk⟩
  simp (disch := omega) only [C.rk_code_gos, T.tv, seval, c0, c1, c2, m2, b1, b3, c3, va]
  refine eff_callF rfl ((rkclass_any H7' F x.type hxf.type).mono ?_)
  rintro v9 h9 ⟨rfl, rfl⟩
  cases hkk : (clsOfS c.pool x.type).2 with
  | true =>
    rw [hkk, if_neg (by simp)] at hhk
    simp only [C.rk_code_gos, T.tv, seval, w1]
    exact ⟨cd.hs.length - (j + 1), by omega, j + 1, rfl, by omega, rfl, hxd.trans x7, hhk⟩
  | false =>
    rw [hkk, if_pos ⟨t0, rfl⟩] at hhk
    rw [hhk]
    simp only [C.rk_code_gos, T.tv, seval]
    exact xx7
end
end Go.Proofs.YtflocjbhcjhenaaGreatDoor

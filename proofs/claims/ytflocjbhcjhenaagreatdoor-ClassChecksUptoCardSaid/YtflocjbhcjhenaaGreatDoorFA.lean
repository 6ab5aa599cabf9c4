/- What is wrong with constants of a class, plainly. Texts, names of classes and constants, by the program. Constants checked, by the program. The class itself checked, by the program. Pairs of texts as keys of a map; what is there twice. No condition. -/
import Derived.Test.YtflocjbhcjhenaaGreatDoorED
import Derived.Test.YtflocjbhcjhenaaGreatDoorDE
import Derived.Test.YtflocjbhcjhenaaGreatDoorLP
import Derived.Test.YtflocjbhcjhenaaGreatDoorVcS
import Derived.Test.YtflocjbhcjhenaaGreatDoorCB
set_option linter.unusedSimpArgs false
set_option linter.unusedVariables false
namespace Go.Proofs.YtflocjbhcjhenaaGreatDoor
open Go.Vc
set_option maxRecDepth 100000
def memK (p : List Cst) (c : Cst) : Nat :=
  if isS p c.a 7 = false ∨ isS p c.b 12 = false then 7
  else if isS p (p.getD c.b Cst.zero).a 1 = false ∨ isS p (p.getD c.b Cst.zero).b 1 = false then 7
  else if c.tag = 9 then (if memP (strS p (p.getD c.b Cst.zero).a) false = 0 then 8 else if fieldP (strS p (p.getD c.b Cst.zero).b) = false then 9 else 0)
  else if memP (strS p (p.getD c.b Cst.zero).a) true = 0 ∨ memP (strS p (p.getD c.b Cst.zero).a) true = 3 ∨ (memP (strS p (p.getD c.b Cst.zero).a) true = 2 ∧ c.tag = 11) then 8
  else if (methP (strS p (p.getD c.b Cst.zero).b)).isSome = false ∨ (memP (strS p (p.getD c.b Cst.zero).a) true = 2 ∧ mG (strS p (p.getD c.b Cst.zero).b) ≠ [86]) then 9 else 0
def cstK (p : List Cst) (c : Cst) : Nat :=
  if c.tag = 7 then (if isS p c.a 1 = false then 7 else if clsN (strS p c.a) = false then 8 else 0)
  else if c.tag = 8 then (if isS p c.a 1 = false then 7 else 0)
  else if c.tag = 12 then (if isS p c.a 1 = false ∨ isS p c.b 1 = false then 7 else if memP (strS p c.a) true = 0 ∧ memP (strS p c.a) false = 0 then 8
    else if (methP (strS p c.b)).isSome = false ∧ fieldP (strS p c.b) = false then 9 else 0)
  else if c.tag = 9 ∨ c.tag = 10 ∨ c.tag = 11 then memK p c else 0
theorem memP_lt (s : List UInt8) (m : Bool) : memP s m < 4 := by
  unfold memP
  split
  · decide
  split
  · decide
  split <;> decide
structure CB (h : Heap) (g : Nat) (c : Cls) (vp vi vf vm : Value) : Prop where
  blk : h[g]? = some (.cells (ClsV c vp vi vf vm).toArray 28 (0, 0))
  cls : ClsC h c vp vi vf vm
theorem CB.ext {h h' : Heap} {g : Nat} {c : Cls} {vp vi vf vm : Value} (H : CB h g c vp vi vf vm) (x : Ext h h') : CB h' g c vp vi vf vm := ⟨Fr_blk x H.blk _root_.id, H.cls.ext x⟩
theorem CB.at {h : Heap} {g : Nat} {c : Cls} {vp vi vf vm : Value} (H : CB h g c vp vi vf vm) {i : Nat} {v : Value} (hi : (ClsV c vp vi vf vm)[i]? = some v) : cellAt h ⟨g, i, none⟩ = some v := by
  rw [cellAt_of H.blk]; simpa using hi
structure CF (c : Cls) : Prop where
  fit : c.Fit
  len : c.pool.length ≤ 65536
  txt : ∀ x ∈ c.pool, x.text.length ≤ 4294967296
end Go.Proofs.YtflocjbhcjhenaaGreatDoor
namespace Go.Proofs.YtflocjbhcjhenaaGreatDoor
open Go.Vc
set_option maxRecDepth 100000
section
variable {h : Heap} {g : Nat} {c : Cls} {vp vi vf vm : Value}
abbrev ckV (g : Nat) : Value := .agg #[.pointer (some ⟨g, 0, none⟩)]
theorem CF.str {c : Cls} (F : CF c) (k : Nat) : (strS c.pool k).length ≤ 4294967296 := strS_len F.txt k
theorem cktext_any (H : CB h g c vp vi vf vm) (k : Nat) (hk : k < 65536) :
    HCalls Tryz.prog 19 #[ckV g, .int .u16 k] h fun v h' => Ext h h' ∧ v = .tuple #[str (strS c.pool k), .bool (isS c.pool k 1)] := by
  refine C.ck_text_calls (args := [ckV g, .int .u16 k]) rfl ?_
  simp only [C.ck_text_gos, T.tv]
  refine eff_box ?_
  have q0 : cellAt (h.push (.cells #[.pointer (some ⟨g, 0, none⟩)] 46)) ⟨h.size, 0, none⟩ = some (.pointer (some ⟨g, 0, none⟩)) := by rw [cellAt_push_new]; rfl
  have E := Ext.push h (.cells #[.pointer (some ⟨g, 0, none⟩)] 46)
  have H1 := H.ext E
  simp only [C.ck_text_gos, T.tv, seval]
  generalize h.push (.cells #[.pointer (some ⟨g, 0, none⟩)] 46) = h1 at *
  generalize h.size = q at *
  have c5 : cellAt h1 ⟨g, 5, none⟩ = some vp := H1.at rfl
  simp only [T.tv, q0, seval, c5]
  refine eff_callF rfl ((strS_any k hk H1.cls.p).mono ?_)
  rintro v2 h2 ⟨rfl, rfl⟩
  simp only [T.tv, q0, seval, c5]
  refine eff_callF rfl ((is_any k 1 hk H1.cls.p).mono ?_)
  rintro v3 h3 ⟨rfl, rfl⟩
  simp only [T.tv, seval]
  exact E
theorem ckclass_any (H : CB h g c vp vi vf vm) (F : CF c) (k : Nat) (hk : k < 65536) :
    HCalls Tryz.prog 25 #[ckV g, .int .u16 k] h fun v h' => Ext h h' ∧ v = .tuple #[str (clsOfS c.pool k).1, .bool (clsOfS c.pool k).2] := by
  refine C.ck_class_calls (args := [ckV g, .int .u16 k]) rfl ?_
  simp only [C.ck_class_gos, T.tv]
  refine eff_box ?_
  have q0 : cellAt (h.push (.cells #[.pointer (some ⟨g, 0, none⟩)] 46)) ⟨h.size, 0, none⟩ = some (.pointer (some ⟨g, 0, none⟩)) := by rw [cellAt_push_new]; rfl
  have qb : (h.push (.cells #[.pointer (some ⟨g, 0, none⟩)] 46))[h.size]? = some (.cells ([.pointer (some ⟨g, 0, none⟩)] : List Value).toArray 46 (0, 0)) := by simp
  have qk := ld_agg T.ag_46 (Rd_block qb) rfl
  clear qb
  have E := Ext.push h (.cells #[.pointer (some ⟨g, 0, none⟩)] 46)
  have H1 := H.ext E
  simp only [C.ck_class_gos, T.tv, seval]
  generalize h.push (.cells #[.pointer (some ⟨g, 0, none⟩)] 46) = h1 at *
  generalize h.size = q at *
  have c5 : cellAt h1 ⟨g, 5, none⟩ = some vp := H1.at rfl
  simp only [T.tv, q0, seval, c5]
  refine eff_callF rfl ((is_any k 7 hk H1.cls.p).mono ?_)
  rintro v2 h2 ⟨rfl, rfl⟩
  unfold clsOfS
  cases h7 : isS c.pool k 7 with
  | false =>
    simp only [C.ck_class_gos, T.tv, seval]
    exact E
  | true =>
    obtain ⟨_, hkl⟩ := isS_lt h7
    have hk' : (k : Int) < (c.pool.length : Int) := by omega
    have hs := H1.cls.p
    obtain ⟨b, o, c', hvp, hrd, _⟩ := hs.at hkl
    subst hvp
    rw [flatS_at hkl] at hrd
    have hfa : (c.pool.getD k Cst.zero).a < 65536 := (F.fit.pool _ (by simp [hkl])).a
    generalize c.pool.getD k Cst.zero = x at *
    have c3 : cellAt h2 ⟨b, o + k * 5 + 3, none⟩ = some (.int .u16 (x.a : Int)) := hrd 3 _ rfl
    simp (disch := omega) only [C.ck_class_gos, T.tv, seval, q0, qk, c5, c3]
    refine eff_callF rfl ((cktext_any H1 x.a hfa).mono ?_)
    rintro v3 h3 ⟨x3, rfl⟩
    simp only [T.tv, seval]
    first | exact E.trans x3 | exact ⟨E.trans x3, rfl⟩
set_option maxHeartbeats 4000000 in
theorem ckmember_any (H : CB h g c vp vi vf vm) (F : CF c) (k : Cst) (hk : k.Fit) (ht : k.tag = 9 ∨ k.tag = 10 ∨ k.tag = 11) :
    HCalls Tryz.prog 24 #[ckV g, cstA k] h fun v h' => Ext h h' ∧ v = .int .i64 (memK c.pool k : Nat) := by
  refine C.ck_member_calls (args := [ckV g, cstA k]) rfl ?_
  simp only [C.ck_member_gos, T.tv]
  refine eff_box ?_
  have qb : (h.push (.cells #[.pointer (some ⟨g, 0, none⟩)] 46))[h.size]? = some (.cells ([.pointer (some ⟨g, 0, none⟩)] : List Value).toArray 46 (0, 0)) := by simp
  have E := Ext.push h (.cells #[.pointer (some ⟨g, 0, none⟩)] 46)
  simp only [T.tv, seval]
  generalize h.push (.cells #[.pointer (some ⟨g, 0, none⟩)] 46) = h1 at *
  generalize h.size = q at *
  refine eff_box ?_
  have E1 := Ext.push h1 (.cells #[.int .u8 (k.tag : Int), str k.text, .int .u64 (k.bits : Int), .int .u16 (k.a : Int), .int .u16 (k.b : Int)] 38)
  have qc : (h1.push (.cells #[.int .u8 (k.tag : Int), str k.text, .int .u64 (k.bits : Int), .int .u16 (k.a : Int), .int .u16 (k.b : Int)] 38))[h1.size]? = some (.cells #[.int .u8 (k.tag : Int), str k.text, .int .u64 (k.bits : Int), .int .u16 (k.a : Int), .int .u16 (k.b : Int)] 38 (0, 0)) := by simp
  have qb := Fr_blk E1 qb _root_.id
  simp only [C.ck_member_gos, T.tv, seval]
  generalize h1.push (.cells #[.int .u8 (k.tag : Int), str k.text, .int .u64 (k.bits : Int), .int .u16 (k.a : Int), .int .u16 (k.b : Int)] 38) = h2 at *
  generalize h1.size = q2 at *
  have x2 := E.trans E1
  have H2 := H.ext x2
  have key : ∀ h3, Ext h2 h3 → cellAt h3 ⟨q, 0, none⟩ = some (.pointer (some ⟨g, 0, none⟩)) ∧ ld Tryz.prog 46 ⟨q, 0, none⟩ h3 = some (ckV g) ∧ cellAt h3 ⟨g, 5, none⟩ = some vp ∧
      cellAt h3 ⟨q2, 0, none⟩ = some (.int .u8 (k.tag : Int)) ∧ cellAt h3 ⟨q2, 3, none⟩ = some (.int .u16 (k.a : Int)) ∧ cellAt h3 ⟨q2, 4, none⟩ = some (.int .u16 (k.b : Int)) := by
    intro h3 x3
    have b1 := Fr_blk x3 qb _root_.id
    have b2 := Fr_blk x3 qc _root_.id
    refine ⟨?_, ld_agg T.ag_46 (Rd_block b1) rfl, (H2.ext x3).at rfl, ?_, ?_, ?_⟩
    · rw [cellAt_of b1]; rfl
    all_goals rw [cellAt_of b2]; rfl
  obtain ⟨q0, ql, c5, k0, k3, k4⟩ := key h2 (Ext.refl _)
  simp only [T.tv, q0, seval, c5, k3]
  refine eff_callF rfl ((is_any k.a 7 hk.a H2.cls.p).mono ?_)
  rintro v3 h3 ⟨rfl, rfl⟩
  unfold memK
  cases h7 : isS c.pool k.a 7 with
  | false =>
    rw [if_pos (.inl rfl)]
    simp only [C.ck_member_gos, T.tv, ↓reduceIte, Nat.reduceEqDiff, reduceCtorEq]
    exact ⟨x2, rfl⟩
  | true =>
    simp only [T.tv, q0, seval, c5, k4]
    refine eff_callF rfl ((is_any k.b 12 hk.b H2.cls.p).mono ?_)
    rintro v3 h3 ⟨rfl, rfl⟩
    cases h12 : isS c.pool k.b 12 with
    | false =>
      rw [if_pos (.inr rfl)]
      simp only [C.ck_member_gos, T.tv, ↓reduceIte, Nat.reduceEqDiff, reduceCtorEq]
      exact ⟨x2, rfl⟩
    | true =>
      rw [if_neg (by simp)]
      obtain ⟨_, hkl⟩ := isS_lt h12
      have hk' : (k.b : Int) < (c.pool.length : Int) := by omega
      have hs := H2.cls.p
      obtain ⟨b, o, c', hvp, hrd, _⟩ := hs.at hkl
      subst hvp
      rw [flatS_at hkl] at hrd
      have hfx := F.fit.pool (c.pool.getD k.b Cst.zero) (by simp [hkl])
      generalize c.pool.getD k.b Cst.zero = y at *
      have y3 : cellAt h3 ⟨b, o + k.b * 5 + 3, none⟩ = some (.int .u16 (y.a : Int)) := hrd 3 _ rfl
      simp (disch := omega) only [C.ck_member_gos, T.tv, seval, q0, ql, c5, k4, y3]
      refine eff_callF rfl ((cktext_any H2 y.a hfx.a).mono ?_)
      rintro v4 h4 ⟨x4, rfl⟩
      obtain ⟨q0, ql, c5, k0, k3, k4⟩ := key h4 x4
      have y4 : cellAt h4 ⟨b, o + k.b * 5 + 4, none⟩ = some (.int .u16 (y.b : Int)) := (x4.rd hrd (hrd.lt (by simp [Cst.cells])) _root_.id) 4 _ rfl
      simp (disch := omega) only [C.ck_member_gos, T.tv, seval, q0, ql, c5, k4, y4]
      refine eff_callF rfl ((cktext_any (H2.ext x4) y.b hfx.b).mono ?_)
      rintro v5 h5 ⟨x5, rfl⟩
      have x25 := x4.trans x5
      have xx := x2.trans x25
      have la := F.str y.a
      have lb := F.str y.b
      obtain ⟨q0, ql, c5, k0, k3, k4⟩ := key h5 x25
      generalize strS c.pool y.a = na at *
      generalize strS c.pool y.b = nd at *
      cases isS c.pool y.a 1 with
      | false =>
        rw [if_pos (.inl rfl)]
        simp only [C.ck_member_gos, T.tv, ↓reduceIte, Nat.reduceEqDiff, reduceCtorEq]
        exact ⟨xx, rfl⟩
      | true =>
        cases isS c.pool y.b 1 with
        | false =>
          rw [if_pos (.inr rfl)]
          simp only [C.ck_member_gos, T.tv, ↓reduceIte, Nat.reduceEqDiff, reduceCtorEq]
          exact ⟨xx, rfl⟩
        | true =>
          rw [if_neg (by simp)]
          by_cases t9 : k.tag = 9
          · rw [if_pos t9]
            simp (disch := omega) only [C.ck_member_gos, T.tv, seval, k0, va]
            refine eff_callF rfl ((member_any na false la).mono ?_)
            rintro v6 h6 ⟨x6, rfl⟩
            by_cases m0 : memP na false = 0
            · rw [if_pos m0]
              simp (disch := omega) only [C.ck_member_gos, T.tv, ↓reduceIte, Nat.reduceEqDiff, reduceCtorEq, va]
              exact ⟨xx.trans x6, rfl⟩
            · rw [if_neg m0]
              simp (disch := omega) only [C.ck_member_gos, T.tv, seval, va]
              refine eff_callF rfl ((field_any nd lb).mono ?_)
              rintro v7 h7 ⟨x7, rfl⟩
              cases fieldP nd
              all_goals
                simp only [C.ck_member_gos, T.tv, ↓reduceIte, Nat.reduceEqDiff, reduceCtorEq]
                exact ⟨(xx.trans x6).trans x7, rfl⟩
          · rw [if_neg t9]
            simp (disch := omega) only [C.ck_member_gos, T.tv, seval, k0, va]
            refine eff_callF rfl ((method_any nd lb).mono ?_)
            rintro v6 h6 ⟨x6, hm⟩
            obtain ⟨sv, rfl, _⟩ := MethV_parts hm
            simp only [C.ck_member_gos, T.tv, seval]
            refine eff_callF rfl ((member_any na true la).mono ?_)
            rintro v7 h7 ⟨x7, rfl⟩
            obtain ⟨q0, ql, c5, k0, k3, k4⟩ := key h7 ((x25.trans x6).trans x7)
            have x27 := (xx.trans x6).trans x7
            generalize memP na true = kd at *
            generalize (methP nd).isSome = ok at *
            generalize mG nd = gv at *
            by_cases c1 : kd = 0
            · rw [if_pos (.inl c1)]
              simp (disch := omega) only [C.ck_member_gos, T.tv, ↓reduceIte, Nat.reduceEqDiff, reduceCtorEq, va]
              exact ⟨x27, rfl⟩
            by_cases c2 : kd = 3
            · rw [if_pos (.inr (.inl c2))]
              simp (disch := omega) only [C.ck_member_gos, T.tv, ↓reduceIte, Nat.reduceEqDiff, reduceCtorEq, va]
              exact ⟨x27, rfl⟩
            by_cases c4 : kd = 2
            · by_cases c3 : k.tag = 11
              · rw [if_pos (.inr (.inr ⟨c4, c3⟩))]
                simp (disch := omega) only [C.ck_member_gos, T.tv, ↓reduceIte, Nat.reduceEqDiff, reduceCtorEq, k0, va]
                exact ⟨x27, rfl⟩
              · rw [if_neg (by omega)]
                by_cases hg : gv = [86]
                · cases ok
                  · rw [if_pos (.inl rfl)]
                    simp (disch := omega) only [C.ck_member_gos, T.tv, ↓reduceIte, Nat.reduceEqDiff, reduceCtorEq, k0, va]
                    exact ⟨x27, rfl⟩
                  · rw [if_neg (by simp [hg])]
                    simp (disch := omega) only [C.ck_member_gos, T.tv, ↓reduceIte, Nat.reduceEqDiff, reduceCtorEq, k0, va]
                    exact ⟨x27, rfl⟩
                · rw [if_pos (.inr ⟨c4, hg⟩)]
                  cases ok
                  all_goals
                    simp (disch := omega) only [C.ck_member_gos, T.tv, ↓reduceIte, Nat.reduceEqDiff, reduceCtorEq, k0, va]
                    exact ⟨x27, rfl⟩
            · rw [if_neg (by omega)]
              cases ok
              · rw [if_pos (.inl rfl)]
                simp (disch := omega) only [C.ck_member_gos, T.tv, ↓reduceIte, Nat.reduceEqDiff, reduceCtorEq, va]
                exact ⟨x27, rfl⟩
              · rw [if_neg (by simp [c4])]
                simp (disch := omega) only [C.ck_member_gos, T.tv, ↓reduceIte, Nat.reduceEqDiff, reduceCtorEq, va]
                exact ⟨x27, rfl⟩
end
end Go.Proofs.YtflocjbhcjhenaaGreatDoor
namespace Go.Proofs.YtflocjbhcjhenaaGreatDoor
open Go.Vc
set_option maxRecDepth 100000
section
variable {h : Heap} {g : Nat} {c : Cls} {vp vi vf vm : Value}
def Bx (h : Heap) (q g : Nat) : Prop := h[q]? = some (.cells ([.pointer (some ⟨g, 0, none⟩)] : List Value).toArray 46 (0, 0))
theorem Bx.ext {h h' : Heap} {q g : Nat} (H : Bx h q g) (x : Ext h h') : Bx h' q g := Fr_blk x H _root_.id
theorem Bx.p {h : Heap} {q g : Nat} (H : Bx h q g) : cellAt h ⟨q, 0, none⟩ = some (.pointer (some ⟨g, 0, none⟩)) := by rw [cellAt_of H]; rfl
theorem Bx.l {h : Heap} {q g : Nat} (H : Bx h q g) : ld Tryz.prog 46 ⟨q, 0, none⟩ h = some (ckV g) := ld_agg T.ag_46 (Rd_block H) rfl
theorem Bx.new {h : Heap} {g : Nat} : Bx (h.push (.cells #[.pointer (some ⟨g, 0, none⟩)] 46)) h.size g := by simp [Bx]
abbrev cstO (k : Cst) : Obj := .cells #[.int .u8 (k.tag : Int), str k.text, .int .u64 (k.bits : Int), .int .u16 (k.a : Int), .int .u16 (k.b : Int)] 38
theorem cst_ld {h : Heap} {q : Nat} {k : Cst} (hb : h[q]? = some (cstO k)) : ld Tryz.prog 38 ⟨q, 0, none⟩ h = some (cstA k) :=
  ld_agg T.ag_38 (Rd_block (vs := [.int .u8 (k.tag : Int), str k.text, .int .u64 (k.bits : Int), .int .u16 (k.a : Int), .int .u16 (k.b : Int)]) hb) rfl
set_option maxHeartbeats 4000000 in
theorem ckconstant_any (H : CB h g c vp vi vf vm) (F : CF c) (k : Cst) (hk : k.Fit) :
    HCalls Tryz.prog 9 #[ckV g, cstA k] h fun v h' => Ext h h' ∧ v = .int .i64 (cstK c.pool k : Nat) := by
  refine C.ck_constant_calls (args := [ckV g, cstA k]) rfl ?_
  simp only [C.ck_constant_gos, T.tv]
  refine eff_box ?_
  have B := Bx.new (h := h) (g := g)
  have E := Ext.push h (.cells #[.pointer (some ⟨g, 0, none⟩)] 46)
  simp only [T.tv, seval]
  generalize h.push (.cells #[.pointer (some ⟨g, 0, none⟩)] 46) = h1 at *
  generalize h.size = q at *
  refine eff_box ?_
  have E1 := Ext.push h1 (cstO k)
  have qc : (h1.push (cstO k))[h1.size]? = some (cstO k) := by simp
  have B := B.ext E1
  simp only [C.ck_constant_gos, T.tv, seval]
  generalize h1.push (cstO k) = h2 at *
  generalize h1.size = q2 at *
  have x2 := E.trans E1
  have H2 := H.ext x2
  have key : ∀ h3, Ext h2 h3 → cellAt h3 ⟨q2, 0, none⟩ = some (.int .u8 (k.tag : Int)) ∧ cellAt h3 ⟨q2, 3, none⟩ = some (.int .u16 (k.a : Int)) ∧ cellAt h3 ⟨q2, 4, none⟩ = some (.int .u16 (k.b : Int)) := by
    intro h3 x3
    have b2 := Fr_blk x3 qc _root_.id
    refine ⟨?_, ?_, ?_⟩
    all_goals rw [cellAt_of b2]; rfl
  obtain ⟨k0, k3, k4⟩ := key h2 (Ext.refl _)
  have ql := B.l
  have la := F.str k.a
  have lb := F.str k.b
  have hcl := cst_ld qc
  unfold cstK
  by_cases t7 : k.tag = 7
  · rw [if_pos t7]
    simp (disch := omega) only [C.ck_constant_gos, T.tv, seval, k0, ql, k3, va]
    refine eff_callF rfl ((cktext_any H2 k.a hk.a).mono ?_)
    rintro v3 h3 ⟨x3, rfl⟩
    generalize strS c.pool k.a = na at *
    cases isS c.pool k.a 1 with
    | false =>
      simp only [C.ck_constant_gos, T.tv, ↓reduceIte, Nat.reduceEqDiff, reduceCtorEq]
      exact ⟨x2.trans x3, rfl⟩
    | true =>
      simp only [C.ck_constant_gos, T.tv, seval]
      refine eff_callF rfl ((class_any na la).mono ?_)
      rintro v4 h4 ⟨x4, rfl⟩
      cases clsN na
      all_goals
        simp only [C.ck_constant_gos, T.tv, ↓reduceIte, Nat.reduceEqDiff, reduceCtorEq]
        exact ⟨(x2.trans x3).trans x4, rfl⟩
  rw [if_neg t7]
  by_cases t8 : k.tag = 8
  · rw [if_pos t8]
    simp (disch := omega) only [C.ck_constant_gos, T.tv, seval, k0, ql, k3, va]
    refine eff_callF rfl ((cktext_any H2 k.a hk.a).mono ?_)
    rintro v3 h3 ⟨x3, rfl⟩
    cases isS c.pool k.a 1
    all_goals
      simp only [C.ck_constant_gos, T.tv, ↓reduceIte, Nat.reduceEqDiff, reduceCtorEq]
      exact ⟨x2.trans x3, rfl⟩
  rw [if_neg t8]
  by_cases t12 : k.tag = 12
  · rw [if_pos t12]
    simp (disch := omega) only [C.ck_constant_gos, T.tv, seval, k0, ql, k3, va]
    refine eff_callF rfl ((cktext_any H2 k.a hk.a).mono ?_)
    rintro v3 h3 ⟨x3, rfl⟩
    have ql3 := (B.ext x3).l
    obtain ⟨_, _, k4⟩ := key h3 x3
    simp only [C.ck_constant_gos, T.tv, seval, ql3, k4]
    refine eff_callF rfl ((cktext_any (H2.ext x3) k.b hk.b).mono ?_)
    rintro v4 h4 ⟨x4, rfl⟩
    generalize strS c.pool k.a = na at *
    generalize strS c.pool k.b = nd at *
    generalize isS c.pool k.a 1 = b1 at *
    generalize isS c.pool k.b 1 = b2 at *
    simp only [C.ck_constant_gos, T.tv, seval]
    refine eff_callF rfl ((method_any nd lb).mono ?_)
    rintro v5 h5 ⟨x5, hm⟩
    obtain ⟨sv, rfl, _⟩ := MethV_parts hm
    have xx := ((x2.trans x3).trans x4).trans x5
    generalize (methP nd).isSome = ok at *
    generalize mG nd = gv at *
    cases b1 with
    | false =>
      rw [if_pos (.inl rfl)]
      simp only [C.ck_constant_gos, T.tv, ↓reduceIte, Nat.reduceEqDiff, reduceCtorEq]
      exact ⟨xx, rfl⟩
    | true =>
      cases b2 with
      | false =>
        rw [if_pos (.inr rfl)]
        simp only [C.ck_constant_gos, T.tv, ↓reduceIte, Nat.reduceEqDiff, reduceCtorEq]
        exact ⟨xx, rfl⟩
      | true =>
        rw [if_neg (by simp)]
        simp only [C.ck_constant_gos, T.tv, seval]
        refine eff_callF rfl ((member_any na true la).mono ?_)
        rintro v6 h6 ⟨x6, rfl⟩
        have tail : ∀ h7, Ext h6 h7 → True := fun _ _ => trivial
        by_cases m0 : memP na true = 0
        · simp (disch := omega) only [T.tv, va, seval]
          refine eff_callF rfl ((member_any na false la).mono ?_)
          rintro v7 h7 ⟨x7, rfl⟩
          by_cases m1 : memP na false = 0
          · rw [if_pos ⟨m0, m1⟩]
            simp (disch := omega) only [C.ck_constant_gos, T.tv, ↓reduceIte, Nat.reduceEqDiff, reduceCtorEq, va]
            exact ⟨(xx.trans x6).trans x7, rfl⟩
          · rw [if_neg (fun x => m1 x.2)]
            cases ok with
            | true =>
              rw [if_neg (by simp)]
              simp (disch := omega) only [C.ck_constant_gos, T.tv, ↓reduceIte, Nat.reduceEqDiff, reduceCtorEq, va]
              exact ⟨(xx.trans x6).trans x7, rfl⟩
            | false =>
              simp (disch := omega) only [C.ck_constant_gos, T.tv, seval, va]
              refine eff_callF rfl ((field_any nd lb).mono ?_)
              rintro v8 h8 ⟨x8, rfl⟩
              cases fieldP nd
              all_goals
                simp only [C.ck_constant_gos, T.tv, ↓reduceIte, Nat.reduceEqDiff, reduceCtorEq]
                exact ⟨((xx.trans x6).trans x7).trans x8, rfl⟩
        · rw [if_neg (fun x => m0 x.1)]
          cases ok with
          | true =>
            rw [if_neg (by simp)]
            simp (disch := omega) only [C.ck_constant_gos, T.tv, ↓reduceIte, Nat.reduceEqDiff, reduceCtorEq, va]
            exact ⟨xx.trans x6, rfl⟩
          | false =>
            simp (disch := omega) only [C.ck_constant_gos, T.tv, seval, va]
            refine eff_callF rfl ((field_any nd lb).mono ?_)
            rintro v8 h8 ⟨x8, rfl⟩
            cases fieldP nd
            all_goals
              simp only [C.ck_constant_gos, T.tv, ↓reduceIte, Nat.reduceEqDiff, reduceCtorEq]
              exact ⟨(xx.trans x6).trans x8, rfl⟩
  rw [if_neg t12]
  by_cases t9 : k.tag = 9 ∨ k.tag = 10 ∨ k.tag = 11
  · rw [if_pos t9]
    rcases t9 with t | t | t
    all_goals
      simp (disch := omega) only [C.ck_constant_gos, T.tv, seval, k0, ql, hcl, va]
      refine eff_callF rfl ((ckmember_any H2 F k hk (by omega)).mono ?_)
      rintro v3 h3 ⟨x3, rfl⟩
      simp only [T.tv, seval]
      exact x2.trans x3
  · rw [if_neg t9]
    simp (disch := omega) only [C.ck_constant_gos, T.tv, ↓reduceIte, Nat.reduceEqDiff, reduceCtorEq, k0, va]
    exact ⟨x2, rfl⟩
end
end Go.Proofs.YtflocjbhcjhenaaGreatDoor
namespace Go.Proofs.YtflocjbhcjhenaaGreatDoor
open Go.Vc
set_option maxRecDepth 100000
theorem and16 (f m : Nat) (hf : f < 65536) (hm : m < 65536) : bitsV .and .u16 (f : Int) (m : Int) = ((f &&& m : Nat) : Int) := bits_and rfl f m (by simpa [IntKind.bits] using hf) (by simpa [IntKind.bits] using hm)
def flagK (f : Nat) : Bool := (decide (f &&& 512 ≠ 0) && (decide (f &&& 1024 = 0) || decide (f &&& 48 ≠ 0))) || (decide (f &&& 1024 ≠ 0) && decide (f &&& 16 ≠ 0))
def objN : List UInt8 := [106, 97, 118, 97, 47, 108, 97, 110, 103, 47, 79, 98, 106, 101, 99, 116]
def ifsK (p : List Cst) : List Nat → List (List UInt8) → Nat
  | [], _ => 0
  | x :: r, seen => if (clsOfS p x).2 = false then 7 else if (clsOfS p x).1.head? = some 91 then 8 else if (clsOfS p x).1 ∈ seen then 11 else ifsK p r (seen ++ [(clsOfS p x).1])
def itsK (c : Cls) : Nat :=
  if flagK c.flags = true then 10
  else if (clsOfS c.pool c.this).2 = false then 7
  else if (clsOfS c.pool c.this).1.head? = some 91 then 8
  else if (clsOfS c.pool c.super).2 = false then 7
  else if (clsOfS c.pool c.super).1.head? = some 91 ∨ (c.flags &&& 512 ≠ 0 ∧ (clsOfS c.pool c.super).1 ≠ objN) then 8
  else ifsK c.pool c.ifs []
theorem clsOf_ne {p : List Cst} (hp : ∀ x ∈ p, cstK p x = 0) {k : Nat} (h : (clsOfS p k).2 = true) : (clsOfS p k).1 ≠ [] := by
  unfold clsOfS at h ⊢
  split at h
  · rename_i h7
    rw [if_pos h7]
    simp only [] at h ⊢
    rw [if_pos h]
    have hl := (isS_lt h7).2
    have hc := hp (p.getD k Cst.zero) (by simp [hl])
    have ht : (p.getD k Cst.zero).tag = 7 := by
      unfold isS at h7
      simp only [Bool.and_eq_true, decide_eq_true_eq] at h7
      exact h7.2.2
    unfold cstK at hc
    rw [if_pos ht, if_neg (by rw [h]; decide)] at hc
    intro he
    have hs : strS p (p.getD k Cst.zero).a = [] := by unfold strS; rw [if_pos h]; exact he
    rw [hs, show clsN [] = false by decide] at hc
    cases hc
  · cases h
def kS : List UInt8 → Value := fun a => str a
theorem kS_key (a : List UInt8) : Go.MapKept.IsKey .string (kS a) := trivial
theorem kS_inj (a a' : List UInt8) (h : kS a = kS a') : a = a' := by
  unfold kS str at h
  injection h with h
  injection h with h
  simpa using h
theorem mp_ss : mpT Tryz.prog 69 .string (.agg #[]) := ⟨_, _, _, rfl, rfl, rfl, rfl⟩
section
variable {h : Heap} {g : Nat} {c : Cls} {vp vi vf vm : Value}
def seenF (seen : List (List UInt8)) : List UInt8 → Option Value := fun s => if s ∈ seen then some (.agg #[]) else none
theorem seenF_snoc (seen : List (List UInt8)) (a : List UInt8) : (fun a' => if a' = a then some (.agg #[]) else seenF seen a') = seenF (seen ++ [a]) := by
  funext s
  unfold seenF
  by_cases h1 : s = a
  · simp [h1]
  · simp [h1]
set_option maxHeartbeats 8000000 in
theorem itself_loop {h0 : Heap} {q : Nat} {u0 u4 u5 u6 u7 u8 u53 u64 u67 u77 u80 : Value} (X : Ext h0 h) (B : Bx h q g) (H : CB h g c vp vi vf vm) (F : CF c) (hp : ∀ x ∈ c.pool, cstK c.pool x = 0) (hil : c.ifs.length ≤ 1073741824) :
    Cd.vc Tryz.prog C.ck_itself_t0 (retQ Tryz.prog [(2, none)] fun v h' => Ext h0 h' ∧ v = .int .i64 (ifsK c.pool c.ifs [] : Nat))
      [(0, u0), (1, .pointer (some ⟨q, 0, none⟩)), (2, .int .i64 0), (3, .pointer (some ⟨g, 0, none⟩)), (4, u4), (5, u5), (6, u6), (7, u7), (8, u8), (9, undef), (11, undef), (12, undef), (13, undef), (15, undef), (53, u53), (64, u64), (67, u67), (77, u77), (80, u80), (95, undef), (96, undef), (97, undef), (98, undef), (108, undef), (111, undef), (118, undef)] h := by
  rw [C.ck_itself_t0_go]
  have his := H.cls.i
  obtain ⟨_, a, ci, rfl, _⟩ := id his
  simp only [C.ck_itself_gos, T.tv]
  refine eff_makemap ?_
  have M0 : MapO kS (h.push (.map #[] 0)) h.size (fun _ => none) := MapO.new
  have hz0 : (fun _ : List UInt8 => (none : Option Value)) = seenF [] := by funext s; simp [seenF]
  rw [hz0] at M0
  have E1 := Ext.push h (.map #[] 0)
  have hmb : h.size ≤ h.size := Nat.le_refl _
  have c6 : cellAt (h.push (.map #[] 0)) ⟨g, 6, none⟩ = some (.slice a c.ifs.length ci) := (H.ext E1).at rfl
  generalize h.push (.map #[] 0) = h1 at *
  obtain ⟨mb, hmbe⟩ : ∃ x, x = h.size := ⟨_, rfl⟩
  rw [← hmbe] at M0 hmb ⊢
  simp only [C.ck_itself_gos, T.tv, seval, c6]
  refine loop_intro [1, 9, 95, 96, 97] (fun m ρ hc => ∃ i : Nat, m = c.ifs.length - i ∧ i ≤ c.ifs.length ∧
    ρ = [(1, .pointer (some ⟨q, 0, none⟩)), (9, .map (some mb)), (95, .slice a c.ifs.length ci), (96, .int .i64 (c.ifs.length : Int)), (97, .int .i64 (i : Int))] ∧ Ext h hc ∧
    MapO kS hc mb (seenF ((c.ifs.take i).map fun k => (clsOfS c.pool k).1)) ∧ ifsK c.pool c.ifs [] = ifsK c.pool (c.ifs.drop i) ((c.ifs.take i).map fun k => (clsOfS c.pool k).1)) ?_ ?_
  · simp only [T.tv, seval]
    exact ⟨_, 0, rfl, Nat.zero_le _, rfl, E1, by simpa using M0, by simp⟩
  rintro m ρ hc ⟨i, rfl, hi, rfl, hx, hM, hk⟩
  by_cases hlt : i < c.ifs.length
  case neg =>
    have hlt' : ¬ (i : Int) < (c.ifs.length : Int) := by omega
    rw [hk, List.drop_of_length_le (by omega)]
    simp (disch := omega) only [C.ck_itself_gos, T.tv, seval, va]
    exact ⟨X.trans hx, rfl⟩
  have hlt' : (i : Int) < (c.ifs.length : Int) := by omega
  obtain ⟨b, o, c', heq, hrd, _⟩ := (his.ext (by decide) hx).at hlt
  cases heq
  rw [natV_at hlt] at hrd
  have hkf := F.fit.ifs (c.ifs.getD i 0) (getD_mem hlt)
  rw [drop_getD (d := 0) hlt, ifsK] at hk
  have htk := take_getD (l := c.ifs) (d := 0) hlt
  have hmap : (c.ifs.take (i + 1)).map (fun k => (clsOfS c.pool k).1) = (c.ifs.take i).map (fun k => (clsOfS c.pool k).1) ++ [(clsOfS c.pool (c.ifs.getD i 0)).1] := by rw [htk]; simp
  generalize c.ifs.getD i 0 = k at *
  have r0 : cellAt hc ⟨b, o + i, none⟩ = some (.int .u16 (k : Int)) := by
    have := hrd 0 (.int .u16 (k : Int)) rfl
    simpa using this
  have bl := (B.ext hx).l
  simp (disch := omega) only [C.ck_itself_gos, T.tv, seval, r0, bl, va]
  refine eff_callF rfl ((ckclass_any (H.ext hx) F k hkf).mono ?_)
  rintro v1 h2 ⟨x1, rfl⟩
  have hne := @clsOf_ne c.pool hp k
  generalize (clsOfS c.pool k).1 = nm at *
  generalize (clsOfS c.pool k).2 = kk at *
  have hx2 := hx.trans x1
  cases kk with
  | false =>
    rw [if_pos rfl] at hk
    rw [hk]
    simp only [C.ck_itself_gos, T.tv, ↓reduceIte, Nat.reduceEqDiff]
    exact ⟨X.trans hx2, rfl⟩
  | true =>
    rw [if_neg (by decide)] at hk
    have hn := hne rfl
    have lp : (0 : Int) < (nm.length : Int) := by have := List.length_pos_iff.2 hn; omega
    by_cases hb : nm.head? = some 91
    · have g1 : ((nm.getD 0 0).toNat : Int) = 91 := (head_get hn 91).1 hb
      rw [if_pos hb] at hk
      rw [hk]
      simp (disch := omega) only [C.ck_itself_gos, T.tv, ↓reduceIte, Nat.reduceEqDiff, Int.reduceToNat, g1]
      exact ⟨X.trans hx2, rfl⟩
    have g1 : ¬ ((nm.getD 0 0).toNat : Int) = 91 := fun x => hb ((head_get hn 91).2 x)
    rw [if_neg hb] at hk
    have hM2 := hM.fr x1 _root_.id
    generalize (c.ifs.take i).map (fun k => (clsOfS c.pool k).1) = seen at *
    have hlk : lkE Tryz.prog 69 (.map (some mb)) (str nm) true h2 = some (.tuple #[.agg #[], .bool (decide (nm ∈ seen))]) := by
      have := lk_map mp_ss kS_key hM2 nm true
      have e : seenF seen nm = if nm ∈ seen then some (.agg #[]) else none := rfl
      rw [e] at this
      by_cases hs : nm ∈ seen
      · rw [if_pos hs] at this
        rw [decide_eq_true hs]; exact this
      · rw [if_neg hs] at this
        rw [decide_eq_false hs]; exact this
    simp (disch := omega) only [C.ck_itself_gos, T.tv, seval, g1, hlk]
    refine eff_alloc_z T.zr_70 ?_
    simp only [T.tv]
    refine eff_store_new_z T.zr_70 rfl rfl rfl (by simp [Value.cells]) rfl ?_
    intro h3 x3 _ _ _
    have hM3 := hM2.fr x3 _root_.id
    have hx3 := hx2.trans x3
    by_cases hs : nm ∈ seen
    · rw [if_pos hs] at hk
      rw [hk]
      simp only [C.ck_itself_gos, T.tv, ↓reduceIte, Nat.reduceEqDiff, decide_eq_true hs]
      exact ⟨X.trans hx3, rfl⟩
    rw [if_neg hs] at hk
    simp only [C.ck_itself_gos, T.tv, seval, decide_eq_false hs]
    refine eff_mapset (K := _) mp_ss kS_key kS_inj (a := nm) (b := mb) (F := seenF seen) rfl rfl rfl hM3 ?_
    intro h4 hM4 f4 _
    rw [seenF_snoc, ← hmap] at hM4
    have hx4 : Ext h h4 := Fr.trans hx3 f4 (fun _ _ h => h) (fun k hk hS => by omega)
    have w1 : IntKind.i64.wrap ((i : Int) + 1) = ((i + 1 : Nat) : Int) := by rw [wrap_i64 (by omega) (by omega)]; omega
    simp only [C.ck_itself_gos, T.tv, seval, w1]
    exact ⟨c.ifs.length - (i + 1), by omega, i + 1, rfl, by omega, rfl, hx4, hM4, by rw [hk, hmap]⟩
set_option maxHeartbeats 8000000 in
theorem itself_tail {h0 : Heap} {q : Nat} {face : Bool} {u0 u5 u53 : Value} (X : Ext h0 h) (B : Bx h q g) (H : CB h g c vp vi vf vm) (F : CF c) (hp : ∀ x ∈ c.pool, cstK c.pool x = 0) (hil : c.ifs.length ≤ 1073741824)
    (hface : face = true ↔ c.flags &&& 512 ≠ 0) (hfl : flagK c.flags = false) :
    Cd.vc Tryz.prog C.ck_itself_t1 (retQ Tryz.prog [(2, none)] fun v h' => Ext h0 h' ∧ v = .int .i64 (itsK c : Nat))
      [(0, u0), (1, .pointer (some ⟨q, 0, none⟩)), (2, .int .i64 0), (3, .pointer (some ⟨g, 0, none⟩)), (4, .bool face), (5, u5), (6, undef), (7, undef), (8, undef), (9, undef), (11, undef), (12, undef), (13, undef), (15, undef), (53, u53), (64, undef), (67, undef), (77, undef), (80, undef), (95, undef), (96, undef), (97, undef), (98, undef), (108, undef), (111, undef), (118, undef)] h := by
  rw [C.ck_itself_t1_go]
  have c3 : cellAt h ⟨g, 3, none⟩ = some (.int .u16 (c.this : Int)) := H.at rfl
  have bl := B.l
  unfold itsK
  rw [if_neg (by rw [hfl]; decide)]
  simp only [C.ck_itself_gos, T.tv, seval, bl, c3]
  refine eff_callF rfl ((ckclass_any H F c.this F.fit.this).mono ?_)
  rintro v1 h1 ⟨x1, rfl⟩
  have hne1 := @clsOf_ne c.pool hp c.this
  generalize (clsOfS c.pool c.this).1 = n1 at *
  generalize (clsOfS c.pool c.this).2 = k1 at *
  cases k1 with
  | false =>
    simp only [C.ck_itself_gos, T.tv, ↓reduceIte, Nat.reduceEqDiff, reduceCtorEq]
    exact ⟨X.trans x1, rfl⟩
  | true =>
    have hn1 := hne1 rfl
    have lp1 : (0 : Int) < (n1.length : Int) := by have := List.length_pos_iff.2 hn1; omega
    rw [if_neg (by decide)]
    by_cases hb1 : n1.head? = some 91
    · have g1 : ((n1.getD 0 0).toNat : Int) = 91 := (head_get hn1 91).1 hb1
      rw [if_pos hb1]
      simp (disch := omega) only [C.ck_itself_gos, T.tv, ↓reduceIte, Nat.reduceEqDiff, reduceCtorEq, Int.reduceToNat, g1]
      exact ⟨X.trans x1, rfl⟩
    have g1 : ¬ ((n1.getD 0 0).toNat : Int) = 91 := fun x => hb1 ((head_get hn1 91).2 x)
    rw [if_neg hb1]
    have c4 : cellAt h1 ⟨g, 4, none⟩ = some (.int .u16 (c.super : Int)) := (H.ext x1).at rfl
    have bl := (B.ext x1).l
    simp (disch := omega) only [C.ck_itself_gos, T.tv, seval, g1, bl, c4]
    refine eff_callF rfl ((ckclass_any (H.ext x1) F c.super F.fit.super).mono ?_)
    rintro v2 h2 ⟨x2, rfl⟩
    have hne2 := @clsOf_ne c.pool hp c.super
    have H2 := (H.ext x1).ext x2
    have B2 := (B.ext x1).ext x2
    have X2 := (X.trans x1).trans x2
    generalize (clsOfS c.pool c.super).1 = n2 at *
    generalize (clsOfS c.pool c.super).2 = k2 at *
    cases k2 with
    | false =>
      simp only [C.ck_itself_gos, T.tv, ↓reduceIte, Nat.reduceEqDiff, reduceCtorEq]
      exact ⟨X2, rfl⟩
    | true =>
      have hn2 := hne2 rfl
      have lp2 : (0 : Int) < (n2.length : Int) := by have := List.length_pos_iff.2 hn2; omega
      rw [if_neg (by decide)]
      by_cases hb2 : n2.head? = some 91
      · have g2 : ((n2.getD 0 0).toNat : Int) = 91 := (head_get hn2 91).1 hb2
        rw [if_pos (.inl hb2)]
        simp (disch := omega) only [C.ck_itself_gos, T.tv, ↓reduceIte, Nat.reduceEqDiff, reduceCtorEq, Int.reduceToNat, g2]
        exact ⟨X2, rfl⟩
      have g2 : ¬ ((n2.getD 0 0).toNat : Int) = 91 := fun x => hb2 ((head_get hn2 91).2 x)
      by_cases hob : face = true ∧ n2 ≠ objN
      · rw [if_pos (.inr ⟨hface.1 hob.1, hob.2⟩)]
        obtain ⟨rfl, hob⟩ := hob
        have hob' : ¬ n2 = [106, 97, 118, 97, 47, 108, 97, 110, 103, 47, 79, 98, 106, 101, 99, 116] := hob
        simp (disch := omega) only [C.ck_itself_gos, T.tv, ↓reduceIte, Nat.reduceEqDiff, reduceCtorEq, Int.reduceToNat, g2, va]
        exact ⟨X2, rfl⟩
      rw [if_neg (by
        rintro (hh | ⟨h1, h2⟩)
        · exact hb2 hh
        · exact hob ⟨hface.2 h1, h2⟩)]
      cases face with
      | false =>
        simp (disch := omega) only [C.ck_itself_gos, T.tv, seval, g2]
        exact itself_loop X2 B2 H2 F hp hil
      | true =>
        have ho : n2 = [106, 97, 118, 97, 47, 108, 97, 110, 103, 47, 79, 98, 106, 101, 99, 116] := by
          by_cases he : n2 = objN
          · exact he
          · exact absurd ⟨rfl, he⟩ hob
        simp (disch := omega) only [C.ck_itself_gos, T.tv, seval, g2, eq_true ho]
        exact itself_loop X2 B2 H2 F hp hil
set_option maxHeartbeats 4000000 in
theorem ckitself_any (H : CB h g c vp vi vf vm) (F : CF c) (hp : ∀ x ∈ c.pool, cstK c.pool x = 0) (hil : c.ifs.length ≤ 1073741824) :
    HCalls Tryz.prog 10 #[ckV g] h fun v h' => Ext h h' ∧ v = .int .i64 (itsK c : Nat) := by
  refine C.ck_itself_calls (args := [ckV g]) rfl ?_
  simp only [C.ck_itself_gos, T.tv]
  refine eff_box ?_
  have B := Bx.new (h := h) (g := g)
  have E := Ext.push h (.cells #[.pointer (some ⟨g, 0, none⟩)] 46)
  simp only [C.ck_itself_gos, T.tv, seval]
  generalize h.push (.cells #[.pointer (some ⟨g, 0, none⟩)] 46) = h1 at *
  generalize h.size = q at *
  have H1 := H.ext E
  have b0 := B.p
  have c2 : cellAt h1 ⟨g, 2, none⟩ = some (.int .u16 (c.flags : Int)) := H1.at rfl
  have a1 : bitsV .and .u16 (c.flags : Int) 512 = ((c.flags &&& 512 : Nat) : Int) := and16 _ 512 F.fit.flags (by decide)
  have a2 : bitsV .and .u16 (c.flags : Int) 1024 = ((c.flags &&& 1024 : Nat) : Int) := and16 _ 1024 F.fit.flags (by decide)
  have a3 : bitsV .and .u16 (c.flags : Int) 48 = ((c.flags &&& 48 : Nat) : Int) := and16 _ 48 F.fit.flags (by decide)
  have a4 : bitsV .and .u16 (c.flags : Int) 16 = ((c.flags &&& 16 : Nat) : Int) := and16 _ 16 F.fit.flags (by decide)
  have tail := fun (face : Bool) (u5 u53 : Value) (h1' : face = true ↔ c.flags &&& 512 ≠ 0) (h2' : flagK c.flags = false) => itself_tail (face := face) (u0 := ckV g) (u5 := u5) (u53 := u53) E B H1 F hp hil h1' h2'
  have hits : flagK c.flags = true → itsK c = 10 := fun hh => by unfold itsK; rw [if_pos hh]
  generalize itsK c = Z at *
  unfold flagK at tail hits
  generalize c.flags &&& 512 = f1 at *
  generalize c.flags &&& 1024 = f2 at *
  generalize c.flags &&& 48 = f3 at *
  generalize c.flags &&& 16 = f4 at *
  by_cases hfl : ((decide (f1 ≠ 0) && (decide (f2 = 0) || decide (f3 ≠ 0))) || (decide (f2 ≠ 0) && decide (f4 ≠ 0))) = true
  · rw [hits hfl]
    simp only [Bool.or_eq_true, Bool.and_eq_true, decide_eq_true_eq] at hfl
    by_cases z1 : f1 = 0
    · have z2 : ¬ f2 = 0 := by omega
      have z4 : ¬ f4 = 0 := by omega
      simp (disch := omega) only [C.ck_itself_gos, T.tv, ↓reduceIte, Nat.reduceEqDiff, reduceCtorEq, b0, c2, a1, a2, a4, va]
      exact ⟨E, rfl⟩
    · by_cases z2 : f2 = 0
      · simp (disch := omega) only [C.ck_itself_gos, T.tv, ↓reduceIte, Nat.reduceEqDiff, reduceCtorEq, b0, c2, a1, a2, va]
        exact ⟨E, rfl⟩
      · by_cases z3 : f3 = 0
        · have z4 : ¬ f4 = 0 := by omega
          simp (disch := omega) only [C.ck_itself_gos, T.tv, ↓reduceIte, Nat.reduceEqDiff, reduceCtorEq, b0, c2, a1, a2, a3, a4, va]
          exact ⟨E, rfl⟩
        · simp (disch := omega) only [C.ck_itself_gos, T.tv, ↓reduceIte, Nat.reduceEqDiff, reduceCtorEq, b0, c2, a1, a2, a3, va]
          exact ⟨E, rfl⟩
  have hfl' : ((decide (f1 ≠ 0) && (decide (f2 = 0) || decide (f3 ≠ 0))) || (decide (f2 ≠ 0) && decide (f4 ≠ 0))) = false := by
    revert hfl; cases ((decide (f1 ≠ 0) && (decide (f2 = 0) || decide (f3 ≠ 0))) || (decide (f2 ≠ 0) && decide (f4 ≠ 0))) <;> simp
  simp only [Bool.or_eq_true, Bool.and_eq_true, decide_eq_true_eq, not_or, not_and] at hfl
  by_cases z1 : f1 = 0
  · have tl := fun u5 u53 => tail false u5 u53 (by simp [z1]) hfl'
    by_cases z2 : f2 = 0
    · simp (disch := omega) only [C.ck_itself_gos, T.tv, seval, b0, c2, a1, a2, va]
      exact tl _ _
    · have z4 : f4 = 0 := by
        by_cases z4 : f4 = 0
        · exact z4
        · exact absurd z4 (hfl.2 z2)
      simp (disch := omega) only [C.ck_itself_gos, T.tv, seval, b0, c2, a1, a2, a4, va]
      exact tl _ _
  · have tl := fun u5 u53 => tail true u5 u53 (by simp [z1]) hfl'
    have h1' := hfl.1 z1
    have z2 : ¬ f2 = 0 := h1'.1
    have z3 : f3 = 0 := by omega
    have z4 : f4 = 0 := by
      by_cases z4 : f4 = 0
      · exact z4
      · exact absurd z4 (hfl.2 z2)
    simp (disch := omega) only [C.ck_itself_gos, T.tv, seval, b0, c2, a1, a2, a3, a4, va]
    exact tl _ _
end
end Go.Proofs.YtflocjbhcjhenaaGreatDoor
namespace Go.Proofs.YtflocjbhcjhenaaGreatDoor
open Go.Vc
set_option maxRecDepth 100000
theorem k_s (h : Heap) (d : Nat) (a u : ByteArray) : rd Tryz.prog (Op.equalIn (d + 1) 9 (.string a) (.string u)) h = some (a == u) := by
  rw [Op.equalIn, rd_bind', rd_underlying Tryz.underlying9, Option.bind_some]
  dsimp only
  rfl
theorem k_eq (h : Heap) (a b u v : ByteArray) : rd Tryz.prog (Op.equal 90 (.agg #[.string a, .string b]) (.agg #[.string u, .string v])) h = some ((a == u) && (b == v)) := by
  show rd Tryz.prog (Op.equalIn (9998 + 1 + 1) 90 _ _) h = _
  rw [Op.equalIn, rd_bind', rd_underlying Tryz.underlying90, Option.bind_some]
  dsimp only
  rw [rd_bind', show rd Tryz.prog (sizeOf 9) h = some 1 by kernel_rfl, Option.bind_some]
  have p0 : ∀ x y : ByteArray, rd Tryz.prog (part 9 #[Value.string x, Value.string y] (0 * 1)) h = some (.string x) := fun x y => by kernel_rfl
  have p1 : ∀ x y : ByteArray, rd Tryz.prog (part 9 #[Value.string x, Value.string y] ((0 + 1) * 1)) h = some (.string y) := fun x y => by kernel_rfl
  rw [rd_bind']
  rw [Std.Legacy.Range.forIn_eq_forIn_range']
  simp only [Std.Legacy.Range.size, Nat.add_sub_cancel, Nat.sub_zero, Nat.div_one, List.range', List.forIn_cons, rd_bind', p0, Option.bind_some, k_s]
  cases hau : (a == u)
  · simp [rd_pure]
  · simp only [Bool.not_true, Bool.false_eq_true, if_false, rd_pure, Option.bind_some, rd_bind', p1, k_s]
    cases hbv : (b == v)
    · simp [rd_pure]
    · simp [rd_pure]
abbrev TT := List UInt8 × List UInt8
def kP : TT → Value := fun p => .agg #[str p.1, str p.2]
theorem kP_inj (a a' : TT) (h : kP a = kP a') : a = a' := by
  obtain ⟨a1, a2⟩ := a
  obtain ⟨b1, b2⟩ := a'
  unfold kP str at h
  simp only [Value.agg.injEq, Array.mk.injEq, List.cons.injEq, Value.string.injEq, ByteArray.mk.injEq, and_true] at h
  have h1 : a1 = b1 := by simpa using h.1
  have h2 : a2 = b2 := by simpa using h.2
  rw [h1, h2]
theorem beq_txt (a b : List UInt8) : ((⟨a.toArray⟩ : ByteArray) == ⟨b.toArray⟩) = decide (a = b) := by
  show (a.toArray == b.toArray) = decide (a = b)
  rw [Bool.eq_iff_iff]
  simp
theorem k_eqP (h : Heap) (p q : TT) : rd Tryz.prog (Op.equal 90 (kP p) (kP q)) h = some (decide (q = p)) := by
  have := k_eq h ⟨p.1.toArray⟩ ⟨p.2.toArray⟩ ⟨q.1.toArray⟩ ⟨q.2.toArray⟩
  rw [show kP p = .agg #[.string ⟨p.1.toArray⟩, .string ⟨p.2.toArray⟩] from rfl, show kP q = .agg #[.string ⟨q.1.toArray⟩, .string ⟨q.2.toArray⟩] from rfl, this, beq_txt, beq_txt]
  obtain ⟨p1, p2⟩ := p
  obtain ⟨q1, q2⟩ := q
  congr 1
  rw [Bool.eq_iff_iff, Bool.and_eq_true, decide_eq_true_eq, decide_eq_true_eq, decide_eq_true_eq, Prod.mk.injEq]
  exact ⟨fun h => ⟨h.1.symm, h.2.symm⟩, fun h => ⟨h.1.symm, h.2.symm⟩⟩
theorem k_ask (h : Heap) (a : TT) : ∀ (es : List MapEntry) (i : Nat), (∀ x ∈ es, ∃ a', x.key = kP a') →
    (rd Tryz.prog (Instr.findAsking 90 (kP a) es i) h = some none ∧ ∀ x ∈ es, x.key ≠ kP a) ∨ ∃ j e0, rd Tryz.prog (Instr.findAsking 90 (kP a) es i) h = some (some (i + j, e0.val)) ∧ es[j]? = some e0 ∧ e0.key = kP a
  | [], i, _ => .inl ⟨rfl, by simp⟩
  | e :: es, i, H => by
    obtain ⟨a', ha⟩ := H e (by simp)
    unfold Instr.findAsking
    rw [rd_bind', ha, k_eqP, Option.bind_some]
    by_cases hk : a' = a
    · rw [decide_eq_true hk]
      exact .inr ⟨0, e, rfl, rfl, by rw [ha, hk]⟩
    · rw [decide_eq_false hk]
      simp only [Bool.false_eq_true, if_false]
      rcases k_ask h a es (i + 1) (fun x hx => H x (by simp [hx])) with ⟨h1, h2⟩ | ⟨j, e0, h1, h2, h3⟩
      · refine .inl ⟨h1, fun x hx => ?_⟩
        rcases List.mem_cons.1 hx with rfl | hx
        · rw [ha]; exact fun h => hk (kP_inj _ _ h)
        · exact h2 x hx
      · exact .inr ⟨j + 1, e0, by rw [h1, show i + 1 + j = i + (j + 1) by omega], by simpa using h2, h3⟩
theorem kP_key : KeyR Tryz.prog 90 kP where
  check e h a := by
    obtain ⟨a, b⟩ := a
    show rd Tryz.prog (Instr.checkKey e 10000 90 (.agg #[str a, str b])) h = some ()
    kernel_rfl
  find h a es H := by
    unfold Instr.findKey
    rw [rd_bind', rd_underlying Tryz.underlying90, Option.bind_some]
    cases es with
    | nil => exact .inl ⟨rfl, by simp⟩
    | cons e es =>
      obtain ⟨a', ha⟩ := H e (by simp)
      have hn : Instr.findNow (.array 2 9) (kP a) (e :: es) 0 = none := by
        unfold Instr.findNow
        rw [ha]; rfl
      rw [hn]
      have := k_ask h a (e :: es) 0 H
      simpa using this
  stays a := by
    obtain ⟨a, b⟩ := a
    simp [kP, str, Instr.sameBits, beq_txt]
  inj := kP_inj
theorem mp_pp : mpK Tryz.prog 49 90 (.int .i64 0) := ⟨_, _, rfl, rfl, rfl⟩
def cntF (seen : List TT) : TT → Option Value := fun p => if p ∈ seen then some (.int .i64 1) else none
theorem cntF_snoc (seen : List TT) (a : TT) : (fun a' => if a' = a then some (.int .i64 1) else cntF seen a') = cntF (seen ++ [a]) := by
  funext s
  unfold cntF
  by_cases h1 : s = a
  · simp [h1]
  · simp [h1]
section
variable {h : Heap} {b : Nat} {seen : List TT}
theorem twice_any (HM : MapO kP h b (cntF seen)) (p1 p2 : List UInt8) :
    HCalls Tryz.prog 27 #[.map (some b), str p1, str p2] h fun v h' => Fr (fun k => k = b) h h' ∧ v = .bool (decide ((p1, p2) ∈ seen)) ∧ ((p1, p2) ∉ seen → MapO kP h' b (cntF (seen ++ [(p1, p2)]))) := by
  refine C.class_twice_calls (args := [.map (some b), str p1, str p2]) rfl ?_
  have bl : ∀ h : Heap, bldE Tryz.prog 90 [0, 1] [str p1, str p2] h = some (.agg #[str p1, str p2]) := fun h => by kernel_rfl
  have lk := lk_mapR mp_pp kP_key HM (p1, p2) false
  simp only [Bool.false_eq_true, if_false] at lk
  have lk1 : lkE Tryz.prog 49 (.map (some b)) (.agg #[str p1, str p2]) false h = some ((cntF seen (p1, p2)).getD (.int .i64 0)) := lk
  by_cases hs : (p1, p2) ∈ seen
  · have hc : cntF seen (p1, p2) = some (.int .i64 1) := if_pos hs
    rw [hc] at lk1
    simp only [Option.getD_some] at lk1
    have w1 : IntKind.i64.wrap ((1 : Int) + 1) = 2 := by decide
    simp (disch := omega) only [C.class_twice_gos, T.tv, seval, bl, lk1, w1]
    refine eff_mapentry mp_pp kP_key (a := (p1, p2)) (F := cntF seen) rfl rfl HM ?_
    intro h1 s HM1 A1 f1 _
    rw [hc] at HM1 ⊢
    simp only [Option.getD_some] at HM1 ⊢
    have lk2 : lkE Tryz.prog 49 (.map (some b)) (.agg #[str p1, str p2]) false h1 = some (.int .i64 1) := by
      have := lk_mapR mp_pp kP_key HM1 (p1, p2) false
      simp at this
      exact this
    simp (disch := omega) only [T.tv, lk2, seval, w1]
    refine eff_entrystore kP_inj (a := (p1, p2)) (n := s) (v := .int .i64 2) rfl rfl rfl HM1 A1 ?_
    intro h2 HM2 f2 _
    have lk3 : lkE Tryz.prog 49 (.map (some b)) (.agg #[str p1, str p2]) false h2 = some (.int .i64 2) := by
      have := lk_mapR mp_pp kP_key HM2 (p1, p2) false
      simp at this
      exact this
    simp (disch := omega) only [C.class_twice_gos, T.tv, seval, bl, lk3, va]
    have ff : Fr (fun k => k = b) h h2 := Fr.trans f1 f2 (fun _ _ h => h) (fun _ _ h => h)
    first | exact ⟨ff, by rw [decide_eq_true hs], fun h => absurd hs h⟩ | exact ⟨ff, fun h => absurd hs h⟩
  · have hc : cntF seen (p1, p2) = none := if_neg hs
    rw [hc] at lk1
    simp only [Option.getD_none] at lk1
    have w1 : IntKind.i64.wrap ((0 : Int) + 1) = 1 := by decide
    simp (disch := omega) only [C.class_twice_gos, T.tv, seval, bl, lk1, w1]
    refine eff_mapentry mp_pp kP_key (a := (p1, p2)) (F := cntF seen) rfl rfl HM ?_
    intro h1 s HM1 A1 f1 _
    rw [hc] at HM1 ⊢
    simp only [Option.getD_none] at HM1 ⊢
    have lk2 : lkE Tryz.prog 49 (.map (some b)) (.agg #[str p1, str p2]) false h1 = some (.int .i64 0) := by
      have := lk_mapR mp_pp kP_key HM1 (p1, p2) false
      simp at this
      exact this
    simp (disch := omega) only [T.tv, lk2, seval, w1]
    refine eff_entrystore kP_inj (a := (p1, p2)) (n := s) (v := .int .i64 1) rfl rfl rfl HM1 A1 ?_
    intro h2 HM2 f2 _
    have lk3 : lkE Tryz.prog 49 (.map (some b)) (.agg #[str p1, str p2]) false h2 = some (.int .i64 1) := by
      have := lk_mapR mp_pp kP_key HM2 (p1, p2) false
      simp at this
      exact this
    simp (disch := omega) only [C.class_twice_gos, T.tv, seval, bl, lk3, va]
    have ff : Fr (fun k => k = b) h h2 := Fr.trans f1 f2 (fun _ _ h => h) (fun _ _ h => h)
    first | refine ⟨ff, by rw [decide_eq_false hs], fun _ => ?_⟩ | refine ⟨ff, fun _ => ?_⟩
    rw [← cntF_snoc]
    have e : (fun a' => if a' = (p1, p2) then some (Value.int .i64 1) else if a' = (p1, p2) then some (Value.int .i64 0) else cntF seen a') = (fun a' => if a' = (p1, p2) then some (.int .i64 1) else cntF seen a') := by
      funext a'; split <;> rfl
    rw [← e]
    exact HM2
end
end Go.Proofs.YtflocjbhcjhenaaGreatDoor

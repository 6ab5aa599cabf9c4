/- A method checked, by the program, whole. A class checked, by the program. Small functions of the reference's check of a class. Constants checked, by the reference. No condition. -/
import Derived.Test.YtflocjbhcjhenaaGreatDoorFG
import Derived.Test.YtflocjbhcjhenaaGreatDoorCB
set_option linter.unusedSimpArgs false
set_option linter.unusedVariables false
namespace Go.Proofs.YtflocjbhcjhenaaGreatDoor
open Go.Vc
set_option maxRecDepth 100000
section
variable {h0 h : Heap} {g mb : Nat} {c : Cls} {vp vi vf vm : Value} {seen : List TT}
set_option maxHeartbeats 16000000 in
theorem ckmethod_any (H : CB h0 g c vp vi vf vm) (F : CF c) (X : Ext h0 h) (hm : h0.size ≤ mb) (HM : MapO kP h mb (cntF seen)) (m : Mth) {vH : Value} (hmf : m.Fit) (hH : SlN h0 4 vH m.code.hs.length (flatH m.code.hs)) (hbl : m.code.bytes.length ≤ 1073741824) (hhl : m.code.hs.length ≤ 1073741824) :
    HCalls Tryz.prog 12 #[ckV g, mthA m vH, .map (some mb)] h (MthR h0 mb seen (strS c.pool m.name, strS c.pool m.type) (mthK c.flags c.pool seen m)) := by
  obtain ⟨_, ah, ch, rfl, _⟩ := id hH
  refine C.ck_method_calls (args := [ckV g, mthA m (.slice ah m.code.hs.length ch), .map (some mb)]) rfl ?_
  have hml := HM.lt
  simp only [C.ck_method_gos, T.tv]
  refine eff_box ?_
  have B := Bx.new (h := h) (g := g)
  have E := Ext.push h (.cells #[.pointer (some ⟨g, 0, none⟩)] 46)
  simp only [T.tv, seval]
  generalize h.push (.cells #[.pointer (some ⟨g, 0, none⟩)] 46) = h1 at *
  have hqm : mb < h.size := hml
  generalize h.size = q at *
  refine eff_box ?_
  have E1 := Ext.push h1 (mthO m (.slice ah m.code.hs.length ch))
  have qc : (h1.push (mthO m (.slice ah m.code.hs.length ch)))[h1.size]? = some (mthO m (.slice ah m.code.hs.length ch)) := by simp
  have B := B.ext E1
  simp only [C.ck_method_gos, T.tv, seval]
  generalize h1.push (mthO m (.slice ah m.code.hs.length ch)) = h2 at *
  have hqm2 : mb < h1.size := by have := (HM.fr E _root_.id).lt; omega
  generalize h1.size = q2 at *
  have x2 := (X.trans E).trans E1
  have M2 := (HM.fr E _root_.id).fr E1 _root_.id
  have key : ∀ h3, Fr (fun k => k = mb) h2 h3 → cellAt h3 ⟨q2, 0, none⟩ = some (.int .u16 (m.flags : Int)) ∧ cellAt h3 ⟨q2, 1, none⟩ = some (.int .u16 (m.name : Int)) ∧ cellAt h3 ⟨q2, 2, none⟩ = some (.int .u16 (m.type : Int)) ∧ cellAt h3 ⟨q2, 3, none⟩ = some (.bool m.has) ∧ Bx h3 q g ∧ CB h3 g c vp vi vf vm ∧
      h3[q2]? = some (mthO m (.slice ah m.code.hs.length ch)) ∧ SlN h3 4 (.slice ah m.code.hs.length ch) m.code.hs.length (flatH m.code.hs) := by
    intro h3 x3
    have b2 := Fr_blk x3 qc (by omega)
    have xx := ext_map x2 x3 hm
    refine ⟨?_, ?_, ?_, ?_, Fr_blk x3 B (by omega), H.ext xx, b2, hH.ext (by decide) xx⟩
    all_goals rw [cellAt_of b2]; rfl
  have up : ∀ {a b : Heap}, Ext a b → Fr (fun k => k = mb) a b := fun e => ⟨e.size, fun k hk _ => e.same k hk _root_.id⟩
  have tr : ∀ {a b c : Heap}, Fr (fun k => k = mb) a b → Fr (fun k => k = mb) b c → Fr (fun k => k = mb) a c := fun p q => Fr.trans p q (fun _ _ h => h) (fun _ _ h => h)
  obtain ⟨k0, k1, k2, k3, B2, H2, _, _⟩ := key h2 (up (Ext.refl _))
  have la := F.str m.name
  have lb := F.str m.type
  have bl := B2.l
  simp only [T.tv, bl, seval, k1]
  refine eff_callF rfl ((cktext_any H2 m.name hmf.name).mono ?_)
  rintro v3 h3 ⟨x3, rfl⟩
  obtain ⟨k0, k1, k2, k3, B3, H3, _, _⟩ := key h3 (up x3)
  have bl := B3.l
  simp only [C.ck_method_gos, T.tv, seval, bl, k2]
  refine eff_callF rfl ((cktext_any H3 m.type hmf.type).mono ?_)
  rintro v4 h4 ⟨x4, rfl⟩
  unfold mthK
  generalize strS c.pool m.name = na at *
  generalize strS c.pool m.type = nd at *
  generalize isS c.pool m.name 1 = i1 at *
  generalize isS c.pool m.type 1 = i2 at *
  simp only [C.ck_method_gos, T.tv, seval]
  refine eff_callF rfl ((member_any na true la).mono ?_)
  rintro v5 h5 ⟨x5, rfl⟩
  simp only [C.ck_method_gos, T.tv, seval]
  refine eff_callF rfl ((method_any nd lb).mono ?_)
  rintro v6 h6 ⟨x6, hmv⟩
  obtain ⟨sv, rfl, hsv⟩ := MethV_parts hmv
  obtain ⟨a9, c9, rfl, _⟩ := id hsv
  rw [List.length_map] at hsv ⊢
  have x26 := ((x3.trans x4).trans x5).trans x6
  have xx6 := x2.trans x26
  obtain ⟨k0, k1, k2, k3, B6, H6, _, _⟩ := key h6 (up x26)
  have a1 : bitsV .and .u16 (m.flags : Int) 1280 = ((m.flags &&& 1280 : Nat) : Int) := and16 _ 1280 hmf.flags (by decide)
  have hkd := memP_lt na true
  generalize memP na true = kd at *
  generalize (methP nd).isSome = ok at *
  generalize mG nd = gv at *
  generalize m.flags &&& 1280 = zb at *
  cases i1 with
  | false =>
    rw [if_pos (.inl rfl)]
    simp only [C.ck_method_gos, T.tv, seval, k0, a1]
    exact ⟨xx6, rfl, fun h => absurd h (by decide)⟩
  | true =>
  cases i2 with
  | false =>
    rw [if_pos (.inr rfl)]
    simp only [C.ck_method_gos, T.tv, seval, k0, a1]
    exact ⟨xx6, rfl, fun h => absurd h (by decide)⟩
  | true =>
  rw [if_neg (by simp)]
  by_cases d0 : kd = 0
  · rw [if_pos d0]
    simp (disch := omega) only [C.ck_method_gos, T.tv, seval, k0, a1, va]
    exact ⟨xx6, rfl, fun h => absurd h (by decide)⟩
  rw [if_neg d0]
  cases ok with
  | false =>
    rw [if_pos (.inl rfl)]
    simp (disch := omega) only [C.ck_method_gos, T.tv, seval, k0, a1, va]
    exact ⟨xx6, rfl, fun h => absurd h (by decide)⟩
  | true =>
  by_cases d2 : kd = 2
  case pos =>
    by_cases hg : gv = [86]
    case neg =>
      rw [if_pos (.inr (.inl ⟨d2, hg⟩))]
      simp (disch := omega) only [C.ck_method_gos, T.tv, seval, k0, a1, eq_false hg, va]
      exact ⟨xx6, rfl, fun h => absurd h (by decide)⟩
    rw [if_neg (by
      rintro (h | ⟨_, h⟩ | ⟨h, _⟩)
      · cases h
      · exact h hg
      · omega)]
    have bl := B6.l
    simp (disch := omega) only [C.ck_method_gos, T.tv, seval, k0, a1, bl, eq_true hg, va]
    refine eff_callF rfl ((ckflags_any H6 F m.flags hmf.flags kd hkd).mono ?_)
    rintro v7 h7 ⟨x7, rfl⟩
    have xx7 := xx6.trans x7
    have x27 := x26.trans x7
    have M7 := M2.fr x27 _root_.id
    cases mflK c.flags m.flags kd with
    | false =>
      rw [if_pos rfl]
      simp only [C.ck_method_gos, T.tv, seval]
      exact ⟨xx7, rfl, fun h => absurd h (by decide)⟩
    | true =>
    rw [if_neg (by decide)]
    simp only [C.ck_method_gos, T.tv, seval]
    refine eff_callF rfl ((twice_any M7 na nd).mono ?_)
    rintro v8 h8 ⟨f8, rfl, hM8⟩
    obtain ⟨k0, k1, k2, k3, B8, H8, q8, s8⟩ := key h8 (tr (up x27) f8)
    have xx8 := ext_map xx7 f8 hm
    by_cases hs : (na, nd) ∈ seen
    case pos =>
      rw [if_pos hs]
      simp only [C.ck_method_gos, T.tv, seval, decide_eq_true hs]
      exact ⟨xx8, rfl, fun h => absurd h (by decide)⟩
    rw [if_neg hs]
    have M8 := hM8 hs
    have hsv8 : Sl h8 (.slice a9 (mT nd).length c9) ((mT nd).map str) := by
      obtain ⟨a', c', e', hr⟩ := hsv
      refine ⟨a', c', e', ?_⟩
      rcases hr with hr | ⟨b', o', e2, hr⟩
      · exact .inl hr
      · refine .inr ⟨b', o', e2, ?_⟩
        by_cases hnil : (mT nd).map str = []
        · rw [hnil]; intro j v hv; simp at hv
        · have hlt := hr.lt hnil
          have hr7 : Rd h7 b' o' ((mT nd).map str) := x7.rd hr hlt _root_.id
          by_cases hbm : b' = mb
          · obtain ⟨es, cl, hmap, _⟩ := M7
            obtain ⟨u, hu⟩ : ∃ u, ((mT nd).map str)[0]? = some u := by
              cases hl : (mT nd).map str with
              | nil => exact absurd hl hnil
              | cons u r => exact ⟨u, rfl⟩
            have := hr7 0 u hu
            subst hbm
            unfold cellAt at this
            rw [hmap] at this
            cases this
          · exact f8.rd hr7 (by have := x7.size; omega) hbm
    cases hhas : m.has with
    | false =>
      rw [hhas] at k3
      by_cases zz : zb = 0
      · rw [if_pos (by simp [zz])]
        simp (disch := omega) only [C.ck_method_gos, T.tv, seval, decide_eq_false hs, k3, va]
        exact ⟨xx8, rfl, fun h => absurd h (by decide)⟩
      · rw [if_neg (by simp [zz]), if_pos zz]
        simp (disch := omega) only [C.ck_method_gos, T.tv, seval, decide_eq_false hs, k3, va]
        exact ⟨xx8, rfl, fun _ => M8⟩
    | true =>
      rw [hhas] at k3
      by_cases zz : zb = 0
      · rw [if_neg (by simp [zz]), if_neg (by simp [zz])]
        simp (disch := omega) only [C.ck_method_gos, T.tv, seval, decide_eq_false hs, k3, va]
        exact method_tail m nd xx8 B8 q8 H8 F hmf s8 hbl hhl lb hsv8 M8
      · rw [if_pos (by simp [zz])]
        simp (disch := omega) only [C.ck_method_gos, T.tv, seval, decide_eq_false hs, k3, va]
        exact ⟨xx8, rfl, fun h => absurd h (by decide)⟩
  by_cases d3 : kd = 3
  case pos =>
    by_cases hg : nd = [40, 41, 86]
    case neg =>
      rw [if_pos (.inr (.inr ⟨d3, hg⟩))]
      simp (disch := omega) only [C.ck_method_gos, T.tv, seval, k0, a1, eq_false hg, va]
      exact ⟨xx6, rfl, fun h => absurd h (by decide)⟩
    rw [if_neg (by
      rintro (h | ⟨h, _⟩ | ⟨_, h⟩)
      · cases h
      · omega
      · exact h hg)]
    have bl := B6.l
    simp (disch := omega) only [C.ck_method_gos, T.tv, seval, k0, a1, bl, eq_true hg, va]
    refine eff_callF rfl ((ckflags_any H6 F m.flags hmf.flags kd hkd).mono ?_)
    rintro v7 h7 ⟨x7, rfl⟩
    have xx7 := xx6.trans x7
    have x27 := x26.trans x7
    have M7 := M2.fr x27 _root_.id
    cases mflK c.flags m.flags kd with
    | false =>
      rw [if_pos rfl]
      simp only [C.ck_method_gos, T.tv, seval]
      exact ⟨xx7, rfl, fun h => absurd h (by decide)⟩
    | true =>
    rw [if_neg (by decide)]
    simp only [C.ck_method_gos, T.tv, seval]
    refine eff_callF rfl ((twice_any M7 na nd).mono ?_)
    rintro v8 h8 ⟨f8, rfl, hM8⟩
    obtain ⟨k0, k1, k2, k3, B8, H8, q8, s8⟩ := key h8 (tr (up x27) f8)
    have xx8 := ext_map xx7 f8 hm
    by_cases hs : (na, nd) ∈ seen
    case pos =>
      rw [if_pos hs]
      simp only [C.ck_method_gos, T.tv, seval, decide_eq_true hs]
      exact ⟨xx8, rfl, fun h => absurd h (by decide)⟩
    rw [if_neg hs]
    have M8 := hM8 hs
    have hsv8 : Sl h8 (.slice a9 (mT nd).length c9) ((mT nd).map str) := by
      obtain ⟨a', c', e', hr⟩ := hsv
      refine ⟨a', c', e', ?_⟩
      rcases hr with hr | ⟨b', o', e2, hr⟩
      · exact .inl hr
      · refine .inr ⟨b', o', e2, ?_⟩
        by_cases hnil : (mT nd).map str = []
        · rw [hnil]; intro j v hv; simp at hv
        · have hlt := hr.lt hnil
          have hr7 : Rd h7 b' o' ((mT nd).map str) := x7.rd hr hlt _root_.id
          by_cases hbm : b' = mb
          · obtain ⟨es, cl, hmap, _⟩ := M7
            obtain ⟨u, hu⟩ : ∃ u, ((mT nd).map str)[0]? = some u := by
              cases hl : (mT nd).map str with
              | nil => exact absurd hl hnil
              | cons u r => exact ⟨u, rfl⟩
            have := hr7 0 u hu
            subst hbm
            unfold cellAt at this
            rw [hmap] at this
            cases this
          · exact f8.rd hr7 (by have := x7.size; omega) hbm
    cases hhas : m.has with
    | false =>
      rw [hhas] at k3
      by_cases zz : zb = 0
      · rw [if_pos (by simp [zz])]
        simp (disch := omega) only [C.ck_method_gos, T.tv, seval, decide_eq_false hs, k3, va]
        exact ⟨xx8, rfl, fun h => absurd h (by decide)⟩
      · rw [if_neg (by simp [zz]), if_pos zz]
        simp (disch := omega) only [C.ck_method_gos, T.tv, seval, decide_eq_false hs, k3, va]
        exact ⟨xx8, rfl, fun _ => M8⟩
    | true =>
      rw [hhas] at k3
      by_cases zz : zb = 0
      · rw [if_neg (by simp [zz]), if_neg (by simp [zz])]
        simp (disch := omega) only [C.ck_method_gos, T.tv, seval, decide_eq_false hs, k3, va]
        exact method_tail m nd xx8 B8 q8 H8 F hmf s8 hbl hhl lb hsv8 M8
      · rw [if_pos (by simp [zz])]
        simp (disch := omega) only [C.ck_method_gos, T.tv, seval, decide_eq_false hs, k3, va]
        exact ⟨xx8, rfl, fun h => absurd h (by decide)⟩
  rw [if_neg (by
    rintro (h | ⟨h, _⟩ | ⟨h, _⟩)
    · cases h
    · omega
    · omega)]
  have bl := B6.l
  simp (disch := omega) only [C.ck_method_gos, T.tv, seval, k0, a1, bl, va]
  refine eff_callF rfl ((ckflags_any H6 F m.flags hmf.flags kd hkd).mono ?_)
  rintro v7 h7 ⟨x7, rfl⟩
  have xx7 := xx6.trans x7
  have x27 := x26.trans x7
  have M7 := M2.fr x27 _root_.id
  cases mflK c.flags m.flags kd with
  | false =>
    rw [if_pos rfl]
    simp only [C.ck_method_gos, T.tv, seval]
    exact ⟨xx7, rfl, fun h => absurd h (by decide)⟩
  | true =>
  rw [if_neg (by decide)]
  simp only [C.ck_method_gos, T.tv, seval]
  refine eff_callF rfl ((twice_any M7 na nd).mono ?_)
  rintro v8 h8 ⟨f8, rfl, hM8⟩
  obtain ⟨k0, k1, k2, k3, B8, H8, q8, s8⟩ := key h8 (tr (up x27) f8)
  have xx8 := ext_map xx7 f8 hm
  by_cases hs : (na, nd) ∈ seen
  case pos =>
    rw [if_pos hs]
    simp only [C.ck_method_gos, T.tv, seval, decide_eq_true hs]
    exact ⟨xx8, rfl, fun h => absurd h (by decide)⟩
  rw [if_neg hs]
  have M8 := hM8 hs
  have hsv8 : Sl h8 (.slice a9 (mT nd).length c9) ((mT nd).map str) := by
    obtain ⟨a', c', e', hr⟩ := hsv
    refine ⟨a', c', e', ?_⟩
    rcases hr with hr | ⟨b', o', e2, hr⟩
    · exact .inl hr
    · refine .inr ⟨b', o', e2, ?_⟩
      by_cases hnil : (mT nd).map str = []
      · rw [hnil]; intro j v hv; simp at hv
      · have hlt := hr.lt hnil
        have hr7 : Rd h7 b' o' ((mT nd).map str) := x7.rd hr hlt _root_.id
        by_cases hbm : b' = mb
        · obtain ⟨es, cl, hmap, _⟩ := M7
          obtain ⟨u, hu⟩ : ∃ u, ((mT nd).map str)[0]? = some u := by
            cases hl : (mT nd).map str with
            | nil => exact absurd hl hnil
            | cons u r => exact ⟨u, rfl⟩
          have := hr7 0 u hu
          subst hbm
          unfold cellAt at this
          rw [hmap] at this
          cases this
        · exact f8.rd hr7 (by have := x7.size; omega) hbm
  cases hhas : m.has with
  | false =>
    rw [hhas] at k3
    by_cases zz : zb = 0
    · rw [if_pos (by simp [zz])]
      simp (disch := omega) only [C.ck_method_gos, T.tv, seval, decide_eq_false hs, k3, va]
      exact ⟨xx8, rfl, fun h => absurd h (by decide)⟩
    · rw [if_neg (by simp [zz]), if_pos zz]
      simp (disch := omega) only [C.ck_method_gos, T.tv, seval, decide_eq_false hs, k3, va]
      exact ⟨xx8, rfl, fun _ => M8⟩
  | true =>
    rw [hhas] at k3
    by_cases zz : zb = 0
    · rw [if_neg (by simp [zz]), if_neg (by simp [zz])]
      simp (disch := omega) only [C.ck_method_gos, T.tv, seval, decide_eq_false hs, k3, va]
      exact method_tail m nd xx8 B8 q8 H8 F hmf s8 hbl hhl lb hsv8 M8
    · rw [if_pos (by simp [zz])]
      simp (disch := omega) only [C.ck_method_gos, T.tv, seval, decide_eq_false hs, k3, va]
      exact ⟨xx8, rfl, fun h => absurd h (by decide)⟩
end
end Go.Proofs.YtflocjbhcjhenaaGreatDoor
namespace Go.Proofs.YtflocjbhcjhenaaGreatDoor
open Go.Vc
set_option maxRecDepth 100000
def poolK (p : List Cst) : Nat → List Cst → Option (Nat × Nat)
  | _, [] => none
  | i, x :: r => if cstK p x ≠ 0 then some (cstK p x, i) else poolK p (i + 1) r
def fldsK (fl : Nat) (p : List Cst) : Nat → List TT → List Fld → Option (Nat × Nat)
  | _, _, [] => none
  | i, seen, f :: r => if fldK fl p seen f ≠ 0 then some (fldK fl p seen f, i) else fldsK fl p (i + 1) (seen ++ [(strS p f.name, strS p f.type)]) r
def mthsK (fl : Nat) (p : List Cst) : Nat → List TT → List Mth → Option ((Int × Int) × Nat)
  | _, _, [] => none
  | i, seen, m :: r => if (mthK fl p seen m).1 ≠ 0 then some (mthK fl p seen m, i) else mthsK fl p (i + 1) (seen ++ [(strS p m.name, strS p m.type)]) r
def chkK (c : Cls) : Int × Int × Int × Int :=
  match poolK c.pool 0 c.pool with
  | some (e, i) => ((e : Int), 0, (i : Int), 0)
  | none => if itsK c ≠ 0 then ((itsK c : Int), 1, 0, 0) else
    match fldsK c.flags c.pool 0 [] c.fields with
    | some (e, i) => ((e : Int), 2, (i : Int), 0)
    | none => match mthsK c.flags c.pool 0 [] c.methods with
      | some (e, i) => (e.1, 3, (i : Int), e.2)
      | none => (0, 0, 0, 0)
def tup4 (x : Int × Int × Int × Int) : Value := .tuple #[.int .i64 x.1, .int .i64 x.2.1, .int .i64 x.2.2.1, .int .i64 x.2.2.2]
structure CL (c : Cls) : Prop where
  i : c.ifs.length ≤ 1073741824
  f : c.fields.length ≤ 1073741824
  m : c.methods.length ≤ 1073741824
  b : ∀ m ∈ c.methods, m.code.bytes.length ≤ 1073741824
  h : ∀ m ∈ c.methods, m.code.hs.length ≤ 1073741824
theorem cntF_nil : (fun _ : TT => (none : Option Value)) = cntF [] := by funext s; simp [cntF]
section
variable {h : Heap} {c : Cls} {vp vi vf vm : Value}
set_option maxHeartbeats 16000000 in
theorem classCheck_any (hC : ClsC h c vp vi vf vm) (F : CF c) (L : CL c) :
    HCalls Tryz.prog 6 #[.agg (ClsV c vp vi vf vm).toArray] h fun v h' => Ext h h' ∧ v = tup4 (chkK c) := by
  have hL1 := F.len
  obtain ⟨_, ap, cp, hvp, _⟩ := id hC.p
  obtain ⟨_, ai, ci, hvi, _⟩ := id hC.i
  obtain ⟨_, af, cf, hvf, _⟩ := id hC.f
  obtain ⟨rws, _, hm2, _⟩ := id hC.m
  obtain ⟨_, am, cm, hvm, _⟩ := id hm2
  clear hm2
  subst hvp hvi hvf hvm
  simp only [ClsV]
  refine C.class_Check_calls (args := [.agg #[.int .u16 (c.minor : Int), .int .u16 (c.major : Int), .int .u16 (c.flags : Int), .int .u16 (c.this : Int), .int .u16 (c.super : Int), .slice ap c.pool.length cp, .slice ai c.ifs.length ci, .slice af c.fields.length cf, .slice am c.methods.length cm]]) rfl ?_
  simp only [C.class_Check_gos, T.tv]
  refine eff_box ?_
  have E := Ext.push h (.cells #[.int .u16 (c.minor : Int), .int .u16 (c.major : Int), .int .u16 (c.flags : Int), .int .u16 (c.this : Int), .int .u16 (c.super : Int), .slice ap c.pool.length cp, .slice ai c.ifs.length ci, .slice af c.fields.length cf, .slice am c.methods.length cm] 28)
  have CB1 : CB (h.push (.cells #[.int .u16 (c.minor : Int), .int .u16 (c.major : Int), .int .u16 (c.flags : Int), .int .u16 (c.this : Int), .int .u16 (c.super : Int), .slice ap c.pool.length cp, .slice ai c.ifs.length ci, .slice af c.fields.length cf, .slice am c.methods.length cm] 28)) h.size c (.slice ap c.pool.length cp) (.slice ai c.ifs.length ci) (.slice af c.fields.length cf) (.slice am c.methods.length cm) := ⟨by simp [ClsV], hC.ext E⟩
  simp only [C.class_Check_gos, T.tv, seval]
  generalize h.push (.cells #[.int .u16 (c.minor : Int), .int .u16 (c.major : Int), .int .u16 (c.flags : Int), .int .u16 (c.this : Int), .int .u16 (c.super : Int), .slice ap c.pool.length cp, .slice ai c.ifs.length ci, .slice af c.fields.length cf, .slice am c.methods.length cm] 28) = h1 at *
  generalize h.size = g at *
  refine eff_alloc_z T.zr_46 ?_
  simp only [T.tv, seval]
  refine eff_store_new_z T.zr_46 rfl rfl rfl (by simp [Value.cells, oneCell]) rfl ?_
  intro h2 x2 _ _ b2
  have B2 : Bx h2 h1.size g := b2
  generalize h1.size = q at *
  have xx2 := E.trans x2
  have CB2 := CB1.ext x2
  have p5 : cellAt h2 ⟨g, 5, none⟩ = some (.slice ap c.pool.length cp) := CB2.at rfl
  clear b2 CB1
  simp only [C.class_Check_gos, T.tv, seval, p5]
  refine loop_intro [1, 6, 21, 22, 23] (fun m ρ hc => ∃ i : Nat, m = c.pool.length - i ∧ i ≤ c.pool.length ∧
    ρ = [(1, .pointer (some ⟨g, 0, none⟩)), (6, .pointer (some ⟨q, 0, none⟩)), (21, .slice ap c.pool.length cp), (22, .int .i64 (c.pool.length : Int)), (23, .int .i64 (i : Int))] ∧ Ext h2 hc ∧
    poolK c.pool 0 c.pool = poolK c.pool i (c.pool.drop i) ∧ ∀ j, j < i → cstK c.pool (c.pool.getD j Cst.zero) = 0) ?_ ?_
  · simp only [T.tv, seval]
    exact ⟨_, 0, rfl, Nat.zero_le _, rfl, Ext.refl _, by simp, fun j hj => absurd hj (Nat.not_lt_zero _)⟩
  rintro m ρ hc ⟨i, rfl, hi, rfl, hx, hpk, hok⟩
  by_cases hlt : i < c.pool.length
  · have hlt' : (i : Int) < (c.pool.length : Int) := by omega
    have w1 : IntKind.i64.wrap ((i : Int) + 1) = ((i + 1 : Nat) : Int) := by rw [wrap_i64 (by omega) (by omega)]; omega
    obtain ⟨b, o, c', heq, hrd, _⟩ := (CB2.ext hx).cls.p.at hlt
    cases heq
    rw [flatS_at hlt] at hrd
    rw [drop_getD (d := Cst.zero) hlt, poolK] at hpk
    have hkf := F.fit.pool _ (getD_mem (d := Cst.zero) hlt)
    have hstep : cstK c.pool (c.pool.getD i Cst.zero) = 0 → ∀ j, j < i + 1 → cstK c.pool (c.pool.getD j Cst.zero) = 0 := by
      intro h0 j hj
      rcases Nat.lt_or_ge j i with hji | hji
      · exact hok j hji
      · rw [show j = i by omega]; exact h0
    generalize c.pool.getD i Cst.zero = k at *
    have hld := ld_agg T.ag_38 hrd rfl
    simp only [Cst.cells] at hld
    simp (disch := omega) only [C.class_Check_gos, T.tv, seval, hlt', hld]
    refine eff_alloc_z T.zr_38 ?_
    simp only [T.tv, seval]
    refine eff_store_new_z T.zr_38 rfl rfl rfl (by simp [Value.cells, oneCell, str]) rfl ?_
    intro h3 x3 _ _ b3
    change h3[hc.size]? = some (cstO k) at b3
    have hx3 := hx.trans x3
    have bl := (B2.ext hx3).l
    have cl := cst_ld b3
    generalize hc.size = q3 at *
    simp only [C.class_Check_gos, T.tv, seval, bl, cl]
    refine eff_callF rfl ((ckconstant_any (CB2.ext hx3) F k hkf).mono ?_)
    rintro v4 h4 ⟨x4, rfl⟩
    have xx4 := (xx2.trans hx3).trans x4
    by_cases h0 : cstK c.pool k = 0
    · rw [if_neg (by simp [h0])] at hpk
      simp (disch := omega) only [C.class_Check_gos, T.tv, seval, w1, va]
      exact ⟨c.pool.length - (i + 1), by omega, i + 1, rfl, by omega, rfl, hx3.trans x4, hpk, hstep h0⟩
    · rw [if_pos h0] at hpk
      have hz : chkK c = ((cstK c.pool k : Int), 0, (i : Int), 0) := by unfold chkK; rw [hpk]
      rw [hz]
      simp (disch := omega) only [C.class_Check_gos, T.tv, seval, va]
      exact ⟨xx4, rfl⟩
  have hlt' : ¬ (i : Int) < (c.pool.length : Int) := by omega
  rw [List.drop_of_length_le (by omega)] at hpk
  have hp : ∀ x ∈ c.pool, cstK c.pool x = 0 := by
    intro x hxm
    obtain ⟨j, hj, rfl⟩ := List.getElem_of_mem hxm
    have := hok j (by omega)
    simpa [hj] using this
  have CBc := CB2.ext hx
  have bl := (B2.ext hx).l
  have xxc := xx2.trans hx
  simp only [C.class_Check_gos, T.tv, seval, hlt', bl]
  refine eff_callF rfl ((ckitself_any CBc F hp L.i).mono ?_)
  rintro v5 h5 ⟨x5, rfl⟩
  have xx5 := xxc.trans x5
  by_cases hit : itsK c = 0
  case neg =>
    have hz : chkK c = ((itsK c : Int), 1, 0, 0) := by unfold chkK; rw [hpk]; simp only [poolK]; rw [if_pos hit]
    rw [hz]
    simp (disch := omega) only [C.class_Check_gos, T.tv, seval, va]
    exact ⟨xx5, rfl⟩
  have CB5 := CBc.ext x5
  have B5 := (B2.ext hx).ext x5
  have hz1 : ∀ r, fldsK c.flags c.pool 0 [] c.fields = some r → chkK c = ((r.1 : Int), 2, (r.2 : Int), 0) := by
    intro r hr
    unfold chkK; rw [hpk]; simp only [poolK]; rw [if_neg (by simp [hit]), hr]
  have hz2 : fldsK c.flags c.pool 0 [] c.fields = none → ∀ r, mthsK c.flags c.pool 0 [] c.methods = some r → chkK c = (r.1.1, 3, (r.2 : Int), r.1.2) := by
    intro hf r hr
    unfold chkK; rw [hpk]; simp only [poolK]; rw [if_neg (by simp [hit]), hf]; simp only []; rw [hr]
  have hz3 : fldsK c.flags c.pool 0 [] c.fields = none → mthsK c.flags c.pool 0 [] c.methods = none → chkK c = (0, 0, 0, 0) := by
    intro hf hr
    unfold chkK; rw [hpk]; simp only [poolK]; rw [if_neg (by simp [hit]), hf]; simp only []; rw [hr]
  clear hpk hok hp
  simp (disch := omega) only [C.class_Check_gos, T.tv, seval, va]
  refine eff_makemap ?_
  have M0 : MapO kP (h5.push (.map #[] 0)) h5.size (fun _ => none) := MapO.new
  rw [cntF_nil] at M0
  have e6 := Ext.push h5 (.map #[] 0)
  have p7 : cellAt (h5.push (.map #[] 0)) ⟨g, 7, none⟩ = some (.slice af c.fields.length cf) := (CB5.ext e6).at rfl
  generalize h5.push (.map #[] 0) = h6 at *
  obtain ⟨mb, hmb⟩ : ∃ y, y = h5.size := ⟨_, rfl⟩
  rw [← hmb] at M0 ⊢
  simp only [C.class_Check_gos, T.tv, seval, p7]
  refine loop_intro [1, 6, 11, 43, 44, 45] (fun m ρ hd => ∃ i : Nat, m = c.fields.length - i ∧ i ≤ c.fields.length ∧
    ρ = [(1, .pointer (some ⟨g, 0, none⟩)), (6, .pointer (some ⟨q, 0, none⟩)), (11, .map (some mb)), (43, .slice af c.fields.length cf), (44, .int .i64 (c.fields.length : Int)), (45, .int .i64 (i : Int))] ∧ Ext h5 hd ∧
    MapO kP hd mb (cntF ((c.fields.take i).map fun f => (strS c.pool f.name, strS c.pool f.type))) ∧
    fldsK c.flags c.pool 0 [] c.fields = fldsK c.flags c.pool i ((c.fields.take i).map fun f => (strS c.pool f.name, strS c.pool f.type)) (c.fields.drop i)) ?_ ?_
  · simp only [T.tv, seval]
    exact ⟨_, 0, rfl, Nat.zero_le _, rfl, e6, by simpa using M0, by simp⟩
  rintro m ρ hd ⟨j, rfl, hj, rfl, hxd, hMd, hfk⟩
  by_cases hlt2 : j < c.fields.length
  · have hlt2' : (j : Int) < (c.fields.length : Int) := by omega
    have w1 : IntKind.i64.wrap ((j : Int) + 1) = ((j + 1 : Nat) : Int) := by have := L.f; rw [wrap_i64 (by omega) (by omega)]; omega
    obtain ⟨b, o, c', heq, hrd, _⟩ := (CB5.ext hxd).cls.f.at hlt2
    cases heq
    rw [flatF_at hlt2] at hrd
    rw [drop_getD (d := Fld.zero) hlt2, fldsK] at hfk
    have hkf := F.fit.fields _ (getD_mem (d := Fld.zero) hlt2)
    have htk : (c.fields.take (j + 1)).map (fun f => (strS c.pool f.name, strS c.pool f.type)) = (c.fields.take j).map (fun f => (strS c.pool f.name, strS c.pool f.type)) ++ [(strS c.pool (c.fields.getD j Fld.zero).name, strS c.pool (c.fields.getD j Fld.zero).type)] := by
      rw [take_getD (d := Fld.zero) hlt2]; simp
    generalize c.fields.getD j Fld.zero = f at *
    have hld := ld_agg T.ag_51 hrd rfl
    simp only [Fld.cells] at hld
    simp (disch := omega) only [C.class_Check_gos, T.tv, seval, hlt2', hld]
    refine eff_alloc_z T.zr_51 ?_
    simp only [T.tv, seval]
    refine eff_store_new_z T.zr_51 rfl rfl rfl (by simp [Value.cells, oneCell]) rfl ?_
    intro h7 x7 _ _ b7
    change h7[hd.size]? = some (fldO f) at b7
    have hx7 := hxd.trans x7
    have bl := (B5.ext hx7).l
    have fl7 : ld Tryz.prog 51 ⟨hd.size, 0, none⟩ h7 = some (fldA f) := ld_agg T.ag_51 (Rd_block (vs := [.int .u16 (f.flags : Int), .int .u16 (f.name : Int), .int .u16 (f.type : Int), .int .u16 (f.value : Int)]) b7) rfl
    have M7 := hMd.fr x7 _root_.id
    generalize hd.size = q7 at *
    simp only [C.class_Check_gos, T.tv, seval, bl, fl7]
    refine eff_callF rfl ((ckfield_any CB5 F hx7 (by omega) M7 f hkf).mono ?_)
    rintro v8 h8 ⟨x8, rfl, hM8⟩
    generalize (c.fields.take j).map (fun f => (strS c.pool f.name, strS c.pool f.type)) = seen at *
    by_cases h0 : fldK c.flags c.pool seen f = 0
    · rw [if_neg (by simp [h0])] at hfk
      have M8 := hM8 h0
      rw [← htk] at M8 hfk
      simp (disch := omega) only [C.class_Check_gos, T.tv, seval, w1, va]
      exact ⟨c.fields.length - (j + 1), by omega, j + 1, rfl, by omega, rfl, x8, M8, hfk⟩
    · rw [if_pos h0] at hfk
      rw [hz1 _ hfk]
      simp (disch := omega) only [C.class_Check_gos, T.tv, seval, va]
      exact ⟨xx5.trans x8, rfl⟩
  have hlt2' : ¬ (j : Int) < (c.fields.length : Int) := by omega
  rw [List.drop_of_length_le (by omega)] at hfk
  have hfn : fldsK c.flags c.pool 0 [] c.fields = none := by rw [hfk]; rfl
  have hz2 := hz2 hfn
  have hz3 := hz3 hfn
  clear hz1 hfk
  have CBd := CB5.ext hxd
  have Bd := B5.ext hxd
  have xxd := xx5.trans hxd
  simp only [C.class_Check_gos, T.tv, seval, hlt2']
  refine eff_makemap ?_
  have N0 : MapO kP (hd.push (.map #[] 0)) hd.size (fun _ => none) := MapO.new
  rw [cntF_nil] at N0
  have e9 := Ext.push hd (.map #[] 0)
  have p8 : cellAt (hd.push (.map #[] 0)) ⟨g, 8, none⟩ = some (.slice am c.methods.length cm) := (CBd.ext e9).at rfl
  generalize hd.push (.map #[] 0) = h9 at *
  obtain ⟨nb, hnb⟩ : ∃ y, y = hd.size := ⟨_, rfl⟩
  rw [← hnb] at N0 ⊢
  simp only [C.class_Check_gos, T.tv, seval, p8]
  refine loop_intro [1, 6, 11, 61, 62, 63] (fun m ρ he => ∃ i : Nat, m = c.methods.length - i ∧ i ≤ c.methods.length ∧
    ρ = [(1, .pointer (some ⟨g, 0, none⟩)), (6, .pointer (some ⟨q, 0, none⟩)), (11, .map (some nb)), (61, .slice am c.methods.length cm), (62, .int .i64 (c.methods.length : Int)), (63, .int .i64 (i : Int))] ∧ Ext hd he ∧
    MapO kP he nb (cntF ((c.methods.take i).map fun f => (strS c.pool f.name, strS c.pool f.type))) ∧
    mthsK c.flags c.pool 0 [] c.methods = mthsK c.flags c.pool i ((c.methods.take i).map fun f => (strS c.pool f.name, strS c.pool f.type)) (c.methods.drop i)) ?_ ?_
  · simp only [T.tv, seval]
    exact ⟨_, 0, rfl, Nat.zero_le _, rfl, e9, by simpa using N0, by simp⟩
  rintro m ρ he ⟨k, rfl, hk, rfl, hxe, hMe, hmk⟩
  by_cases hlt3 : k < c.methods.length
  · have hlt3' : (k : Int) < (c.methods.length : Int) := by omega
    have w1 : IntKind.i64.wrap ((k : Int) + 1) = ((k + 1 : Nat) : Int) := by have := L.m; rw [wrap_i64 (by omega) (by omega)]; omega
    obtain ⟨b, o, c', vH, heq, hrd, hsH, _⟩ := (CBd.ext hxe).cls.m.at hlt3
    cases heq
    rw [drop_getD (d := Mth.zero) hlt3, mthsK] at hmk
    have hkf := F.fit.methods _ (getD_mem (d := Mth.zero) hlt3)
    have hkb := L.b _ (getD_mem (d := Mth.zero) hlt3)
    have hkh := L.h _ (getD_mem (d := Mth.zero) hlt3)
    have hsHd : SlN hd 4 vH (c.methods.getD k Mth.zero).code.hs.length (flatH (c.methods.getD k Mth.zero).code.hs) := by
      obtain ⟨b', o', c'', vH', heq', hrd', hsH', _⟩ := CBd.cls.m.at hlt3
      cases heq'
      have hrd2 : Rd he b (o + k * 9) (MthV (c.methods.getD k Mth.zero) vH') := hxe.rd hrd' (hrd'.lt (by simp [MthV, CdeV])) _root_.id
      have e1 := hrd 7 vH rfl
      have e2 := hrd2 7 vH' rfl
      rw [e1] at e2
      cases e2
      exact hsH'
    have htk : (c.methods.take (k + 1)).map (fun f => (strS c.pool f.name, strS c.pool f.type)) = (c.methods.take k).map (fun f => (strS c.pool f.name, strS c.pool f.type)) ++ [(strS c.pool (c.methods.getD k Mth.zero).name, strS c.pool (c.methods.getD k Mth.zero).type)] := by
      rw [take_getD (d := Mth.zero) hlt3]; simp
    generalize c.methods.getD k Mth.zero = f at *
    obtain ⟨_, ah, ch, rfl, _⟩ := id hsH
    have hld := ld_agg T.ag_43 hrd rfl
    simp only [MthV, CdeV, List.cons_append, List.nil_append] at hld
    simp (disch := omega) only [C.class_Check_gos, T.tv, seval, hlt3', hld]
    refine eff_alloc_z T.zr_43 ?_
    simp only [T.tv, seval]
    refine eff_store_new_z T.zr_43 rfl rfl rfl (by simp [Value.cells, oneCell, str]) rfl ?_
    intro h7 x7 _ _ b7
    change h7[he.size]? = some (mthO f (.slice ah f.code.hs.length ch)) at b7
    have hx7 := hxe.trans x7
    have bl := (Bd.ext hx7).l
    have fl7 : ld Tryz.prog 43 ⟨he.size, 0, none⟩ h7 = some (mthA f (.slice ah f.code.hs.length ch)) := ld_agg T.ag_43 (Rd_block (vs := [.int .u16 (f.flags : Int), .int .u16 (f.name : Int), .int .u16 (f.type : Int), .bool f.has, .int .i64 f.code.maxS, .int .i64 f.code.maxL, str f.code.bytes, .slice ah f.code.hs.length ch, str f.code.map]) b7) rfl
    have M7 := hMe.fr x7 _root_.id
    generalize he.size = q7 at *
    simp only [C.class_Check_gos, T.tv, seval, bl, fl7]
    refine eff_callF rfl ((ckmethod_any CBd F hx7 (by omega) M7 f hkf hsHd hkb hkh).mono ?_)
    rintro v8 h8 ⟨x8, rfl, hM8⟩
    generalize (c.methods.take k).map (fun f => (strS c.pool f.name, strS c.pool f.type)) = seen at *
    generalize mthK c.flags c.pool seen f = ee at *
    obtain ⟨e1, e2⟩ := ee
    by_cases h0 : e1 = 0
    · rw [if_neg (by simp [h0])] at hmk
      have M8 := hM8 h0
      rw [← htk] at M8 hmk
      simp (disch := omega) only [C.class_Check_gos, T.tv, seval, w1, va]
      exact ⟨c.methods.length - (k + 1), by omega, k + 1, rfl, by omega, rfl, x8, M8, hmk⟩
    · rw [if_pos h0] at hmk
      rw [hz2 _ hmk]
      simp (disch := omega) only [C.class_Check_gos, T.tv, seval, va]
      exact ⟨xxd.trans x8, rfl⟩
  have hlt3' : ¬ (k : Int) < (c.methods.length : Int) := by omega
  rw [List.drop_of_length_le (by omega)] at hmk
  rw [hz3 (by rw [hmk]; rfl)]
  simp only [C.class_Check_gos, T.tv, seval, hlt3']
  exact ⟨xxd.trans hxe, rfl⟩
end
end Go.Proofs.YtflocjbhcjhenaaGreatDoor
namespace Go.Proofs.YtflocjbhcjhenaaGreatDoor
open Go.Vc
set_option maxRecDepth 100000
structure RB (h : Heap) (g : Nat) (c : Cls) (vp vi vf vm : Value) : Prop where
  blk : h[g]? = some (.cells (ClsV c vp vi vf vm).toArray 57 (0, 0))
  cls : ClsC h c vp vi vf vm
theorem RB.ext {h h' : Heap} {g : Nat} {c : Cls} {vp vi vf vm : Value} (H : RB h g c vp vi vf vm) (x : Ext h h') : RB h' g c vp vi vf vm := ⟨Fr_blk x H.blk _root_.id, H.cls.ext x⟩
theorem RB.at {h : Heap} {g : Nat} {c : Cls} {vp vi vf vm : Value} (H : RB h g c vp vi vf vm) {i : Nat} {v : Value} (hi : (ClsV c vp vi vf vm)[i]? = some v) : cellAt h ⟨g, i, none⟩ = some v := by
  rw [cellAt_of H.blk]; simpa using hi
abbrev rkV (g : Nat) : Value := .pointer (some ⟨g, 0, none⟩)
def firstE : List Nat → Nat
  | [] => 0
  | e :: r => if e ≠ 0 then e else firstE r
def unl (b : Bool) (e : Nat) : Nat := if b = true then 0 else e
section
variable {h : Heap} {g : Nat} {c : Cls} {vp vi vf vm : Value}
theorem rktext_any (H : RB h g c vp vi vf vm) (k : Nat) (hk : k < 65536) :
    HCalls Tryz.prog 32 #[rkV g, .int .u16 k] h fun v h' => h' = h ∧ v = .tuple #[str (strS c.pool k), .bool (isS c.pool k 1)] := by
  refine C.rk_text_calls (args := [rkV g, .int .u16 k]) rfl ?_
  have c5 : cellAt h ⟨g, 5, none⟩ = some vp := H.at rfl
  have w1 : IntKind.i64.wrap (k : Int) = (k : Int) := wrap_i64 (by omega) (by omega)
  simp only [C.rk_text_gos, T.tv, seval, c5, w1]
  refine eff_callF rfl ((rstrS_any k H.cls.p).mono ?_)
  rintro v2 h2 ⟨rfl, rfl⟩
  simp only [T.tv, seval]
theorem rkclass_any (H : RB h g c vp vi vf vm) (F : CF c) (k : Nat) (hk : k < 65536) :
    HCalls Tryz.prog 42 #[rkV g, .int .u16 k] h fun v h' => h' = h ∧ v = .tuple #[str (clsOfS c.pool k).1, .bool (clsOfS c.pool k).2] := by
  refine C.rk_class_calls (args := [rkV g, .int .u16 k]) rfl ?_
  have c5 : cellAt h ⟨g, 5, none⟩ = some vp := H.at rfl
  have w1 : IntKind.i64.wrap (k : Int) = (k : Int) := wrap_i64 (by omega) (by omega)
  simp only [C.rk_class_gos, T.tv, seval, c5, w1]
  refine eff_callF rfl ((classOf_any k F.fit.pool H.cls.p).mono ?_)
  rintro v2 h2 ⟨rfl, rfl⟩
  simp only [T.tv, seval]
theorem unless_any (b : Bool) (e : Nat) : HCalls Tryz.prog 34 #[.bool b, .int .i64 (e : Int)] h fun v h' => h' = h ∧ v = .int .i64 (unl b e : Nat) := by
  refine C.ref3_unless_calls (args := [.bool b, .int .i64 (e : Int)]) rfl ?_
  unfold unl
  cases b
  all_goals
    simp only [C.ref3_unless_gos, T.tv, seval]
    try rfl
theorem one_any (es : List Nat) (hlen : es.length ≤ 1000) {tv : Value} (hts : Sl h tv (es.map fun t : Nat => .int .i64 (t : Int))) :
    HCalls Tryz.prog 33 #[tv] h fun v h' => h' = h ∧ v = .int .i64 (firstE es : Nat) := by
  refine C.ref3_one_calls (args := [tv]) rfl ?_
  have hts' := hts
  obtain ⟨a, c, rfl, _⟩ := hts'
  rw [List.length_map]
  simp only [C.ref3_one_gos, T.tv, seval]
  refine loop_intro [5, 6, 7] (fun m ρ hc => ∃ i : Nat, m = es.length - i ∧ i ≤ es.length ∧
    ρ = [(5, .slice a es.length c), (6, .int .i64 (es.length : Int)), (7, .int .i64 (i : Int))] ∧ hc = h ∧ firstE es = firstE (es.drop i)) ?_ ?_
  · simp only [T.tv, seval]
    exact ⟨_, 0, rfl, Nat.zero_le _, rfl, by simp⟩
  rintro m ρ hc ⟨i, rfl, hi, rfl, rfl, hf⟩
  by_cases hlt : i < es.length
  · have hlt' : (i : Int) < (es.length : Int) := by omega
    obtain ⟨b, o, c', heq, _, hcell⟩ := hts.at (i := i) (by simpa using hlt)
    rw [List.length_map] at heq
    cases heq
    have hcell' : cellAt hc ⟨b, o + i, none⟩ = some (.int .i64 ((es.getD i 0 : Nat) : Int)) := by rw [hcell]; simp [hlt]
    have w1 : IntKind.i64.wrap ((i : Int) + 1) = ((i + 1 : Nat) : Int) := by rw [wrap_i64 (by omega) (by omega)]; omega
    rw [drop_getD (d := 0) hlt, firstE] at hf
    generalize es.getD i 0 = t at *
    by_cases hz : t = 0
    · rw [if_neg (by simp [hz])] at hf
      simp (disch := omega) only [C.ref3_one_gos, T.tv, seval, hlt', hcell', w1, va]
      exact ⟨es.length - (i + 1), by omega, i + 1, rfl, by omega, rfl, hf⟩
    · rw [if_pos hz] at hf
      rw [hf]
      simp (disch := omega) only [C.ref3_one_gos, T.tv, seval, hlt', hcell', va]
  · have hlt' : ¬ (i : Int) < (es.length : Int) := by omega
    rw [hf, List.drop_of_length_le (by omega)]
    simp only [C.ref3_one_gos, T.tv, seval, hlt']
    try rfl
theorem has_any (f m : Nat) (hf : f < 65536) (hm : m < 65536) : HCalls Tryz.prog 41 #[.int .u16 (f : Int), .int .u16 (m : Int)] h fun v h' => h' = h ∧ v = .bool (decide (f &&& m = m)) := by
  refine C.ref3_has_calls (args := [.int .u16 (f : Int), .int .u16 (m : Int)]) rfl ?_
  have a := and16 f m hf hm
  have e : decide (((f &&& m : Nat) : Int) = (m : Int)) = decide (f &&& m = m) := decide_eq_decide.2 (by omega)
  simp only [C.ref3_has_gos, T.tv, seval, a, e]
def plnK (s : List UInt8) : Bool := decide (s ≠ []) && decide (s.head? ≠ some 91)
theorem plain_any (s : List UInt8) : HCalls Tryz.prog 43 #[str s] h fun v h' => h' = h ∧ v = .bool (plnK s) := by
  refine C.ref3_plain_calls (args := [str s]) rfl ?_
  unfold plnK
  by_cases he : s = []
  · subst he
    simp only [C.ref3_plain_gos, T.tv, seval]
    try rfl
  have lp : (0 : Int) < (s.length : Int) := by have := List.length_pos_iff.2 he; omega
  by_cases hb : s.head? = some 91
  · have g1 : ((s.getD 0 0).toNat : Int) = 91 := (head_get he 91).1 hb
    simp (disch := omega) only [C.ref3_plain_gos, T.tv, seval, he, g1]
    simp [hb]
  · have g1 : ¬ ((s.getD 0 0).toNat : Int) = 91 := fun x => hb ((head_get he 91).2 x)
    simp (disch := omega) only [C.ref3_plain_gos, T.tv, seval, he, g1, va]
    simp []
theorem cnt8 : ∀ f, f < 8 → (decide (cntM f [1, 2, 4] ≤ 1)) = (decide (f = 0) || (decide (f = 1) || (decide (f = 2) || decide (f = 4)))) := by decide +kernel
theorem and_mod (f : Nat) : f &&& 1 = f % 8 &&& 1 ∧ f &&& 2 = f % 8 &&& 2 ∧ f &&& 4 = f % 8 &&& 4 := by
  have key : ∀ m, m < 8 → f &&& m = f % 8 &&& m := by
    intro m hm
    have h8 : (8 : Nat) = 2 ^ 3 := rfl
    rw [h8]
    apply Nat.eq_of_testBit_eq
    intro i
    rw [Nat.testBit_and, Nat.testBit_and, Nat.testBit_mod_two_pow]
    by_cases hi : i < 3
    · simp [hi]
    · have : m.testBit i = false := Nat.testBit_lt_two_pow (Nat.lt_of_lt_of_le hm (by rw [h8]; exact Nat.pow_le_pow_right (by decide) (by omega)))
      simp [this]
  exact ⟨key 1 (by decide), key 2 (by decide), key 4 (by decide)⟩
theorem most8 (f : Nat) : mostP f [1, 2, 4] = (decide (f % 8 = 0) || (decide (f % 8 = 1) || (decide (f % 8 = 2) || decide (f % 8 = 4)))) := by
  have h := cnt8 (f % 8) (by omega)
  have ⟨h1, h2, h4⟩ := and_mod f
  have e : cntM f [1, 2, 4] = cntM (f % 8) [1, 2, 4] := by simp only [cntM]; rw [h1, h2, h4]
  rw [← h]
  unfold mostP
  rw [e]
theorem rmost_any (f : Nat) (hf : f < 65536) : HCalls Tryz.prog 44 #[.int .u16 (f : Int)] h fun v h' => h' = h ∧ v = .bool (mostP f [1, 2, 4]) := by
  refine C.ref3_most_calls (args := [.int .u16 (f : Int)]) rfl ?_
  rw [most8]
  have w0 : (0 : Int) ≤ (f : Int) := by omega
  have w1 : IntKind.u16.wrap ((f : Int) % 8) = ((f % 8 : Nat) : Int) := by rw [wrap_u16 (by omega) (by omega)]; omega
  have hlt : f % 8 < 8 := by omega
  by_cases z0 : f % 8 = 0
  · rw [z0] at w1
    simp (disch := omega) only [C.ref3_most_gos, T.tv, seval, va]
    simp []
  by_cases z1 : f % 8 = 1
  · simp (disch := omega) only [C.ref3_most_gos, T.tv, seval, va]
    simp []
  by_cases z2 : f % 8 = 2
  · simp (disch := omega) only [C.ref3_most_gos, T.tv, seval, va]
    simp []
  by_cases z4 : f % 8 = 4
  · simp (disch := omega) only [C.ref3_most_gos, T.tv, seval, va]
    simp []
  · simp (disch := omega) only [C.ref3_most_gos, T.tv, seval, va]
    simp []
end
end Go.Proofs.YtflocjbhcjhenaaGreatDoor
namespace Go.Proofs.YtflocjbhcjhenaaGreatDoor
open Go.Vc
set_option maxRecDepth 100000
theorem errs_sl {h : Heap} {b : Nat} {es : List Nat} (H : Rd h b 0 (es.map fun t : Nat => .int .i64 (t : Int))) : Sl h (.slice (some ⟨b, 0, none⟩) es.length es.length) (es.map fun t : Nat => .int .i64 (t : Int)) :=
  ⟨some ⟨b, 0, none⟩, es.length, by rw [List.length_map], .inr ⟨b, 0, rfl, H⟩⟩
section
variable {h : Heap} {g : Nat} {c : Cls} {vp vi vf vm : Value}
def rmemK (na nd : List UInt8) (field init : Bool) : Nat :=
  if field = true then firstE [unl (decide (0 < memP na false)) 8, unl (fieldP nd) 9]
  else firstE [unl (decide (memP na true = 1) || (decide (memP na true = 2) && init)) 8, unl ((methP nd).isSome && (decide (memP na true ≠ 2) || decide (mG nd = [86]))) 9]
set_option maxHeartbeats 4000000 in
theorem rmemberK_any (na nd : List UInt8) (la : na.length ≤ 4294967296) (lb : nd.length ≤ 4294967296) (field init : Bool) :
    HCalls Tryz.prog 40 #[str na, str nd, .bool field, .bool init] h fun v h' => Ext h h' ∧ v = .int .i64 (rmemK na nd field init : Nat) := by
  refine C.ref3_member_calls (args := [str na, str nd, .bool field, .bool init]) rfl ?_
  unfold rmemK
  cases field with
  | true =>
    rw [if_pos rfl]
    simp only [C.ref3_member_gos, T.tv, seval]
    refine eff_callF rfl ((rmember_any na false la).mono ?_)
    rintro v1 h1 ⟨rfl, rfl⟩
    have hd : decide ((0 : Int) < ((memP na false : Nat) : Int)) = decide (0 < memP na false) := decide_eq_decide.2 (by omega)
    simp only [T.tv, hd, seval]
    refine eff_callF rfl ((unless_any (decide (0 < memP na false)) 8).mono ?_)
    rintro v2 h2 ⟨rfl, rfl⟩
    simp only [T.tv, seval]
    refine eff_callF rfl ((rfield_any nd lb).mono ?_)
    rintro v3 h3 ⟨rfl, rfl⟩
    simp only [T.tv]
    refine eff_callF rfl ((unless_any (fieldP nd) 9).mono ?_)
    rintro v4 h4 ⟨rfl, rfl⟩
    generalize unl (decide (0 < memP na false)) 8 = e1 at *
    generalize unl (fieldP nd) 9 = e2 at *
    simp only [T.tv]
    refine eff_lits T.slT_80 rfl rfl (by simp []) ?_
    simp only [T.tv, seval]
    have E := Ext.push h4 (.cells #[.int .i64 (e1 : Int), .int .i64 (e2 : Int)] 31)
    have t7 : Sl (h4.push (.cells #[.int .i64 (e1 : Int), .int .i64 (e2 : Int)] 31)) (.slice (some ⟨h4.size, 0, none⟩) 2 2) (([e1, e2] : List Nat).map fun t : Nat => .int .i64 (t : Int)) := errs_sl (es := [e1, e2]) (Rd_new (vs := [.int .i64 (e1 : Int), .int .i64 (e2 : Int)]))
    generalize h4.push (.cells #[.int .i64 (e1 : Int), .int .i64 (e2 : Int)] 31) = h5 at *
    generalize h4.size = q5 at *
    refine eff_callF rfl ((one_any [e1, e2] (by simp) t7).mono ?_)
    rintro v6 h6 ⟨rfl, rfl⟩
    simp only [T.tv, seval]
    exact E
  | false =>
    rw [if_neg (by decide)]
    simp only [C.ref3_member_gos, T.tv, seval]
    refine eff_callF rfl ((rmember_any na true la).mono ?_)
    rintro v1 h1 ⟨rfl, rfl⟩
    simp only [C.ref3_member_gos, T.tv, seval]
    refine eff_callF rfl ((rmethod_any nd lb).mono ?_)
    rintro v2 h2 ⟨x2, hm⟩
    obtain ⟨sv, rfl, _⟩ := MethV_parts hm
    generalize (methP nd).isSome = ok at *
    generalize mG nd = gv at *
    have hk4 := memP_lt na true
    generalize memP na true = kd at *
    by_cases k1 : kd = 1
    case pos =>
      cases ok with
      | false =>
        rw [show (decide (kd = 1) || (decide (kd = 2) && init)) = true by simp [k1], show (false && (decide (kd ≠ 2) || decide (gv = [86]))) = false by simp [k1]]
        simp (disch := omega) only [C.ref3_member_gos, T.tv, seval, va]
        refine eff_callF rfl ((unless_any true 8).mono ?_)
        rintro v3 h3 ⟨rfl, rfl⟩
        simp only [T.tv, seval]
        refine eff_callF rfl ((unless_any false 9).mono ?_)
        rintro v4 h4 ⟨rfl, rfl⟩
        generalize unl true 8 = e1 at *
        generalize unl false 9 = e2 at *
        simp only [T.tv]
        refine eff_lits T.slT_80 rfl rfl (by simp []) ?_
        simp only [T.tv, seval]
        have E := Ext.push h4 (.cells #[.int .i64 (e1 : Int), .int .i64 (e2 : Int)] 31)
        have t7 : Sl (h4.push (.cells #[.int .i64 (e1 : Int), .int .i64 (e2 : Int)] 31)) (.slice (some ⟨h4.size, 0, none⟩) 2 2) (([e1, e2] : List Nat).map fun t : Nat => .int .i64 (t : Int)) := errs_sl (es := [e1, e2]) (Rd_new (vs := [.int .i64 (e1 : Int), .int .i64 (e2 : Int)]))
        generalize h4.push (.cells #[.int .i64 (e1 : Int), .int .i64 (e2 : Int)] 31) = h5 at *
        generalize h4.size = q5 at *
        refine eff_callF rfl ((one_any [e1, e2] (by simp) t7).mono ?_)
        rintro v6 h6 ⟨rfl, rfl⟩
        simp only [T.tv, seval]
        exact x2.trans E
      | true =>
        rw [show (decide (kd = 1) || (decide (kd = 2) && init)) = true by simp [k1], show (true && (decide (kd ≠ 2) || decide (gv = [86]))) = true by simp [k1]]
        simp (disch := omega) only [C.ref3_member_gos, T.tv, seval, va]
        refine eff_callF rfl ((unless_any true 8).mono ?_)
        rintro v3 h3 ⟨rfl, rfl⟩
        simp (disch := omega) only [T.tv, va, seval]
        refine eff_callF rfl ((unless_any true 9).mono ?_)
        rintro v4 h4 ⟨rfl, rfl⟩
        generalize unl true 8 = e1 at *
        generalize unl true 9 = e2 at *
        simp only [T.tv]
        refine eff_lits T.slT_80 rfl rfl (by simp []) ?_
        simp only [T.tv, seval]
        have E := Ext.push h4 (.cells #[.int .i64 (e1 : Int), .int .i64 (e2 : Int)] 31)
        have t7 : Sl (h4.push (.cells #[.int .i64 (e1 : Int), .int .i64 (e2 : Int)] 31)) (.slice (some ⟨h4.size, 0, none⟩) 2 2) (([e1, e2] : List Nat).map fun t : Nat => .int .i64 (t : Int)) := errs_sl (es := [e1, e2]) (Rd_new (vs := [.int .i64 (e1 : Int), .int .i64 (e2 : Int)]))
        generalize h4.push (.cells #[.int .i64 (e1 : Int), .int .i64 (e2 : Int)] 31) = h5 at *
        generalize h4.size = q5 at *
        refine eff_callF rfl ((one_any [e1, e2] (by simp) t7).mono ?_)
        rintro v6 h6 ⟨rfl, rfl⟩
        simp only [T.tv, seval]
        exact x2.trans E
    by_cases k2 : kd = 2
    case pos =>
      cases ok with
      | false =>
        rw [show (decide (kd = 1) || (decide (kd = 2) && init)) = init by simp [k2], show (false && (decide (kd ≠ 2) || decide (gv = [86]))) = false by simp [k2]]
        simp (disch := omega) only [C.ref3_member_gos, T.tv, seval, va]
        refine eff_callF rfl ((unless_any init 8).mono ?_)
        rintro v3 h3 ⟨rfl, rfl⟩
        simp only [T.tv, seval]
        refine eff_callF rfl ((unless_any false 9).mono ?_)
        rintro v4 h4 ⟨rfl, rfl⟩
        generalize unl init 8 = e1 at *
        generalize unl false 9 = e2 at *
        simp only [T.tv]
        refine eff_lits T.slT_80 rfl rfl (by simp []) ?_
        simp only [T.tv, seval]
        have E := Ext.push h4 (.cells #[.int .i64 (e1 : Int), .int .i64 (e2 : Int)] 31)
        have t7 : Sl (h4.push (.cells #[.int .i64 (e1 : Int), .int .i64 (e2 : Int)] 31)) (.slice (some ⟨h4.size, 0, none⟩) 2 2) (([e1, e2] : List Nat).map fun t : Nat => .int .i64 (t : Int)) := errs_sl (es := [e1, e2]) (Rd_new (vs := [.int .i64 (e1 : Int), .int .i64 (e2 : Int)]))
        generalize h4.push (.cells #[.int .i64 (e1 : Int), .int .i64 (e2 : Int)] 31) = h5 at *
        generalize h4.size = q5 at *
        refine eff_callF rfl ((one_any [e1, e2] (by simp) t7).mono ?_)
        rintro v6 h6 ⟨rfl, rfl⟩
        simp only [T.tv, seval]
        exact x2.trans E
      | true =>
        rw [show (decide (kd = 1) || (decide (kd = 2) && init)) = init by simp [k2], show (true && (decide (kd ≠ 2) || decide (gv = [86]))) = decide (gv = [86]) by simp [k2]]
        simp (disch := omega) only [C.ref3_member_gos, T.tv, seval, va]
        refine eff_callF rfl ((unless_any init 8).mono ?_)
        rintro v3 h3 ⟨rfl, rfl⟩
        simp (disch := omega) only [T.tv, va, seval]
        refine eff_callF rfl ((unless_any (decide (gv = [86])) 9).mono ?_)
        rintro v4 h4 ⟨rfl, rfl⟩
        generalize unl init 8 = e1 at *
        generalize unl (decide (gv = [86])) 9 = e2 at *
        simp only [T.tv]
        refine eff_lits T.slT_80 rfl rfl (by simp []) ?_
        simp only [T.tv, seval]
        have E := Ext.push h4 (.cells #[.int .i64 (e1 : Int), .int .i64 (e2 : Int)] 31)
        have t7 : Sl (h4.push (.cells #[.int .i64 (e1 : Int), .int .i64 (e2 : Int)] 31)) (.slice (some ⟨h4.size, 0, none⟩) 2 2) (([e1, e2] : List Nat).map fun t : Nat => .int .i64 (t : Int)) := errs_sl (es := [e1, e2]) (Rd_new (vs := [.int .i64 (e1 : Int), .int .i64 (e2 : Int)]))
        generalize h4.push (.cells #[.int .i64 (e1 : Int), .int .i64 (e2 : Int)] 31) = h5 at *
        generalize h4.size = q5 at *
        refine eff_callF rfl ((one_any [e1, e2] (by simp) t7).mono ?_)
        rintro v6 h6 ⟨rfl, rfl⟩
        simp only [T.tv, seval]
        exact x2.trans E
    cases ok with
    | false =>
      rw [show (decide (kd = 1) || (decide (kd = 2) && init)) = false by simp [k1, k2], show (false && (decide (kd ≠ 2) || decide (gv = [86]))) = false by simp [k2]]
      simp (disch := omega) only [C.ref3_member_gos, T.tv, seval, va]
      refine eff_callF rfl ((unless_any false 8).mono ?_)
      rintro v3 h3 ⟨rfl, rfl⟩
      simp only [T.tv, seval]
      refine eff_callF rfl ((unless_any false 9).mono ?_)
      rintro v4 h4 ⟨rfl, rfl⟩
      generalize unl false 8 = e1 at *
      generalize unl false 9 = e2 at *
      simp only [T.tv]
      refine eff_lits T.slT_80 rfl rfl (by simp []) ?_
      simp only [T.tv, seval]
      have E := Ext.push h4 (.cells #[.int .i64 (e1 : Int), .int .i64 (e2 : Int)] 31)
      have t7 : Sl (h4.push (.cells #[.int .i64 (e1 : Int), .int .i64 (e2 : Int)] 31)) (.slice (some ⟨h4.size, 0, none⟩) 2 2) (([e1, e2] : List Nat).map fun t : Nat => .int .i64 (t : Int)) := errs_sl (es := [e1, e2]) (Rd_new (vs := [.int .i64 (e1 : Int), .int .i64 (e2 : Int)]))
      generalize h4.push (.cells #[.int .i64 (e1 : Int), .int .i64 (e2 : Int)] 31) = h5 at *
      generalize h4.size = q5 at *
      refine eff_callF rfl ((one_any [e1, e2] (by simp) t7).mono ?_)
      rintro v6 h6 ⟨rfl, rfl⟩
      simp only [T.tv, seval]
      exact x2.trans E
    | true =>
      rw [show (decide (kd = 1) || (decide (kd = 2) && init)) = false by simp [k1, k2], show (true && (decide (kd ≠ 2) || decide (gv = [86]))) = true by simp [k2]]
      simp (disch := omega) only [C.ref3_member_gos, T.tv, seval, va]
      refine eff_callF rfl ((unless_any false 8).mono ?_)
      rintro v3 h3 ⟨rfl, rfl⟩
      simp (disch := omega) only [T.tv, va, seval]
      refine eff_callF rfl ((unless_any true 9).mono ?_)
      rintro v4 h4 ⟨rfl, rfl⟩
      generalize unl false 8 = e1 at *
      generalize unl true 9 = e2 at *
      simp only [T.tv]
      refine eff_lits T.slT_80 rfl rfl (by simp []) ?_
      simp only [T.tv, seval]
      have E := Ext.push h4 (.cells #[.int .i64 (e1 : Int), .int .i64 (e2 : Int)] 31)
      have t7 : Sl (h4.push (.cells #[.int .i64 (e1 : Int), .int .i64 (e2 : Int)] 31)) (.slice (some ⟨h4.size, 0, none⟩) 2 2) (([e1, e2] : List Nat).map fun t : Nat => .int .i64 (t : Int)) := errs_sl (es := [e1, e2]) (Rd_new (vs := [.int .i64 (e1 : Int), .int .i64 (e2 : Int)]))
      generalize h4.push (.cells #[.int .i64 (e1 : Int), .int .i64 (e2 : Int)] 31) = h5 at *
      generalize h4.size = q5 at *
      refine eff_callF rfl ((one_any [e1, e2] (by simp) t7).mono ?_)
      rintro v6 h6 ⟨rfl, rfl⟩
      simp only [T.tv, seval]
      exact x2.trans E
end
end Go.Proofs.YtflocjbhcjhenaaGreatDoor

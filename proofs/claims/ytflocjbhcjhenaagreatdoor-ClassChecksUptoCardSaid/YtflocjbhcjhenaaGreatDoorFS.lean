/- The class itself checked, by the reference. A field checked, by the reference. A method checked, by the reference. A class checked, by the reference. The law ClassChecks on heaps: the program and the reference say the same of one class, for whatever class. Conditions: a size of at most 2^40. No condition. -/
import Derived.Test.YtflocjbhcjhenaaGreatDoorFP
import Derived.Test.YtflocjbhcjhenaaGreatDoorLP
set_option linter.unusedSimpArgs false
set_option linter.unusedVariables false
namespace Go.Proofs.YtflocjbhcjhenaaGreatDoor
open Go.Vc
set_option maxRecDepth 100000
def hdK (fl : Nat) (a b : List UInt8 × Bool) : Nat := firstE [unl a.2 7, unl (plnK a.1) 8, unl b.2 7, unl (plnK b.1 && (decide (fl &&& 512 = 0) || decide (b.1 = objN))) 8]
theorem plnK_ne {s : List UInt8} (h : s ≠ []) : plnK s = decide (s.head? ≠ some 91) := by unfold plnK; rw [decide_eq_true h, Bool.true_and]
theorem itsK_hd {c : Cls} (hp : ∀ x ∈ c.pool, cstK c.pool x = 0) (hfl : flagK c.flags = false) :
    itsK c = if hdK c.flags (clsOfS c.pool c.this) (clsOfS c.pool c.super) ≠ 0 then hdK c.flags (clsOfS c.pool c.this) (clsOfS c.pool c.super) else ifsK c.pool c.ifs [] := by
  have h1 := @clsOf_ne c.pool hp c.this
  have h2 := @clsOf_ne c.pool hp c.super
  unfold itsK hdK
  rw [if_neg (by rw [hfl]; decide)]
  generalize clsOfS c.pool c.this = a at *
  generalize clsOfS c.pool c.super = b at *
  generalize c.flags &&& 512 = z at *
  obtain ⟨n1, k1⟩ := a
  obtain ⟨n2, k2⟩ := b
  simp only at h1 h2 ⊢
  cases k1 with
  | false => rw [if_pos rfl]; rfl
  | true =>
    rw [if_neg (by decide), plnK_ne (h1 rfl)]
    by_cases b1 : n1.head? = some 91
    · rw [if_pos b1, show decide (n1.head? ≠ some 91) = false by simp [b1]]; rfl
    · rw [if_neg b1, show decide (n1.head? ≠ some 91) = true by simp [b1]]
      cases k2 with
      | false => rw [if_pos rfl]; rfl
      | true =>
        rw [if_neg (by decide), plnK_ne (h2 rfl)]
        by_cases b2 : n2.head? = some 91
        · rw [if_pos (.inl b2), show decide (n2.head? ≠ some 91) = false by simp [b2]]; rfl
        · rw [show decide (n2.head? ≠ some 91) = true by simp [b2]]
          by_cases z0 : z = 0
          · rw [if_neg (by simp [b2, z0]), show (true && (decide (z = 0) || decide (n2 = objN))) = true by simp [z0]]; rfl
          · by_cases ob : n2 = objN
            · rw [if_neg (fun h => h.elim b2 (fun h => h.2 ob)), show (true && (decide (z = 0) || decide (n2 = objN))) = true by simp [ob]]; rfl
            · rw [if_pos (.inr ⟨z0, ob⟩), show (true && (decide (z = 0) || decide (n2 = objN))) = false by simp [z0, ob]]; rfl
theorem natV_take (l : List Nat) (i : Nat) : (natV l).take i = natV (l.take i) := by unfold natV; rw [List.map_take]
theorem two_ne {a : List UInt8 × Bool} (hn : a.2 = true → a.1 ≠ []) : firstE [unl a.2 7, unl (plnK a.1) 8] = if a.2 = false then 7 else if a.1.head? = some 91 then 8 else 0 := by
  obtain ⟨n, k⟩ := a
  cases k with
  | false => rfl
  | true =>
    rw [if_neg (by simp)]
    simp only [plnK_ne (hn rfl)]
    by_cases b : n.head? = some 91
    · rw [if_pos b, show decide (n.head? ≠ some 91) = false by simp [b]]; rfl
    · rw [if_neg b, show decide (n.head? ≠ some 91) = true by simp [b]]; rfl
section
variable {h : Heap} {g : Nat} {c : Cls} {vp vi vf vm : Value}
set_option maxHeartbeats 8000000 in
theorem ritself_loop {h0 : Heap} {q : Nat} {u4 u5 u6 u7 u8 u9 u10 u51 u87 : Value} (X : Ext h0 h) (B : CB h q c vp vi vf vm) (H : RB h g c vp vi vf vm) (F : CF c) (hp : ∀ x ∈ c.pool, cstK c.pool x = 0) (hil : c.ifs.length ≤ 1073741824) :
    Cd.vc Tryz.prog C.rk_itself_t0 (retQ Tryz.prog [(2, none)] fun v h' => Ext h0 h' ∧ v = .int .i64 (ifsK c.pool c.ifs [] : Nat))
      [(0, rkV g), (2, .int .i64 0), (3, .pointer (some ⟨q, 0, none⟩)), (4, u4), (5, u5), (6, u6), (7, u7), (8, u8), (9, u9), (10, u10), (11, undef), (12, undef), (13, undef), (14, undef), (15, undef), (17, undef), (18, undef),
      (51, u51), (87, u87), (90, undef), (91, undef), (92, undef), (93, undef), (111, undef), (116, undef), (117, undef), (118, undef), (119, undef), (130, undef)] h := by
  rw [C.rk_itself_t0_go]
  have his := H.cls.i
  obtain ⟨_, a, ci, rfl, _⟩ := id his
  have c6 : cellAt h ⟨q, 6, none⟩ = some (.slice a c.ifs.length ci) := B.at rfl
  simp only [C.rk_itself_gos, T.tv, seval, c6]
  refine loop_intro [0, 3, 90, 91, 92] (fun m ρ hc => ∃ i : Nat, m = c.ifs.length - i ∧ i ≤ c.ifs.length ∧
    ρ = [(0, rkV g), (3, .pointer (some ⟨q, 0, none⟩)), (90, .slice a c.ifs.length ci), (91, .int .i64 (c.ifs.length : Int)), (92, .int .i64 (i : Int))] ∧ Ext h hc ∧
    ifsK c.pool c.ifs [] = ifsK c.pool (c.ifs.drop i) ((c.ifs.take i).map fun k => (clsOfS c.pool k).1)) ?_ ?_
  · simp only [T.tv, seval]
    exact ⟨_, 0, rfl, Nat.zero_le _, rfl, Ext.refl _, by simp⟩
  rintro m ρ hc ⟨i, rfl, hi, rfl, hx, hk⟩
  by_cases hlt : i < c.ifs.length
  case neg =>
    have hlt' : ¬ (i : Int) < (c.ifs.length : Int) := by omega
    rw [hk, List.drop_of_length_le (by omega)]
    simp (disch := omega) only [C.rk_itself_gos, T.tv, seval, va]
    exact ⟨X.trans hx, rfl⟩
  have hlt' : (i : Int) < (c.ifs.length : Int) := by omega
  obtain ⟨b, o, c', heq, hrd, hcap⟩ := (his.ext (by decide) hx).at hlt
  cases heq
  rw [natV_at hlt] at hrd
  have hkf := F.fit.ifs (c.ifs.getD i 0) (getD_mem hlt)
  rw [drop_getD (d := 0) hlt, ifsK] at hk
  have htk := take_getD (l := c.ifs) (d := 0) hlt
  have hmap : (c.ifs.take (i + 1)).map (fun k => (clsOfS c.pool k).1) = (c.ifs.take i).map (fun k => (clsOfS c.pool k).1) ++ [(clsOfS c.pool (c.ifs.getD i 0)).1] := by rw [htk]; simp
  generalize c.ifs.getD i 0 = k at *
  have r0 : cellAt hc ⟨b, o + i, none⟩ = some (.int .u16 (k : Int)) := by
    have := hrd 0 (.int .u16 (k : Int)) rfl
    simpa using this
  simp (disch := omega) only [C.rk_itself_gos, T.tv, seval, r0, va]
  refine eff_callF rfl ((rkclass_any (H.ext hx) F k hkf).mono ?_)
  rintro v1 h2 ⟨rfl, rfl⟩
  have h2e := two_ne (a := clsOfS c.pool k) (fun h => @clsOf_ne c.pool hp k h)
  generalize clsOfS c.pool k = nk at *
  obtain ⟨nm, kk⟩ := nk
  dsimp only at hk h2e hmap ⊢
  simp only [C.rk_itself_gos, T.tv, seval]
  refine eff_callF rfl ((unless_any kk 7).mono ?_)
  rintro v2 h3 ⟨rfl, rfl⟩
  simp only [T.tv, seval]
  refine eff_callF rfl ((plain_any nm).mono ?_)
  rintro v3 h4 ⟨rfl, rfl⟩
  simp only [T.tv]
  refine eff_callF rfl ((unless_any (plnK nm) 8).mono ?_)
  rintro v4 h5 ⟨rfl, rfl⟩
  generalize unl kk 7 = e1 at *
  generalize unl (plnK nm) 8 = e2 at *
  simp only [T.tv]
  refine eff_lits T.slT_80 rfl rfl (by simp []) ?_
  simp only [T.tv, seval]
  have E := Ext.push h5 (.cells #[.int .i64 (e1 : Int), .int .i64 (e2 : Int)] 31)
  have t7 : Sl (h5.push (.cells #[.int .i64 (e1 : Int), .int .i64 (e2 : Int)] 31)) (.slice (some ⟨h5.size, 0, none⟩) 2 2) (([e1, e2] : List Nat).map fun t : Nat => .int .i64 (t : Int)) := errs_sl (es := [e1, e2]) (Rd_new (vs := [.int .i64 (e1 : Int), .int .i64 (e2 : Int)]))
  generalize h5.push (.cells #[.int .i64 (e1 : Int), .int .i64 (e2 : Int)] 31) = h6 at *
  generalize h5.size = q5 at *
  refine eff_callF rfl ((one_any [e1, e2] (by simp) t7).mono ?_)
  rintro v6 h7 ⟨rfl, rfl⟩
  have hx7 := hx.trans E
  have c6' : cellAt h7 ⟨q, 6, none⟩ = some (.slice (some ⟨b, o, none⟩) c.ifs.length ci) := (B.ext hx7).at rfl
  have hkk : ifsK c.pool c.ifs [] = if firstE [e1, e2] ≠ 0 then firstE [e1, e2] else if nm ∈ List.map (fun k => (clsOfS c.pool k).1) (List.take i c.ifs) then 11 else ifsK c.pool (List.drop (i + 1) c.ifs) (List.map (fun k => (clsOfS c.pool k).1) (List.take i c.ifs) ++ [nm]) := by
    rw [hk, h2e]
    cases kk with
    | false => rfl
    | true =>
      by_cases hb : nm.head? = some 91
      · simp [hb]
      · simp [hb]
  clear hk h2e
  generalize firstE [e1, e2] = e at *
  by_cases he : e ≠ 0
  · rw [if_pos he] at hkk
    rw [hkk]
    simp (disch := omega) only [C.rk_itself_gos, T.tv, seval, va]
    exact X.trans hx7
  rw [if_neg he] at hkk
  have hcap : c.ifs.length ≤ ci := H.cls.ic
  have s0 : (0 : Int) ≤ (i : Int) := by omega
  have s1 : (i : Int) ≤ (ci : Int) := by omega
  have sub := SlN.sub (lo := 0) (hi := i) (his.ext (by decide) hx7) (Nat.zero_le _) (by omega) hcap
  rw [Nat.zero_mul, List.drop_zero, Nat.sub_zero, Nat.sub_zero, Nat.mul_one, natV_take] at sub
  simp (disch := omega) only [C.rk_itself_gos, T.tv, seval, c6', va, Nat.sub_zero]
  generalize slA (some ⟨b, o, none⟩) ci 0 1 = a2 at *
  have w1 : IntKind.i64.wrap ((i : Int) + 1) = ((i + 1 : Nat) : Int) := by rw [wrap_i64 (by omega) (by omega)]; omega
  refine loop_intro [0, 3, 13, 90, 91, 92, 116, 117, 118] (fun m ρ hd => ∃ j : Nat, m = i - j ∧ j ≤ i ∧
    ρ = [(0, rkV g), (3, .pointer (some ⟨q, 0, none⟩)), (13, str nm), (90, .slice (some ⟨b, o, none⟩) c.ifs.length ci), (91, .int .i64 (c.ifs.length : Int)), (92, .int .i64 (i : Int)), (116, .slice a2 i ci), (117, .int .i64 (i : Int)), (118, .int .i64 (j : Int))] ∧ hd = h7 ∧
    nm ∉ ((c.ifs.take j).map fun k => (clsOfS c.pool k).1)) ?_ ?_
  · simp only [T.tv, seval]
    exact ⟨_, 0, rfl, Nat.zero_le _, rfl, by simp⟩
  rintro m ρ hd ⟨j, rfl, hj, rfl, rfl, hnm⟩
  by_cases hjt : j < i
  case neg =>
    have hjt' : ¬ (j : Int) < (i : Int) := by omega
    have : j = i := by omega
    subst this
    rw [if_neg hnm] at hkk
    simp (disch := omega) only [C.rk_itself_gos, T.tv, seval, w1, va]
    exact ⟨c.ifs.length - (j + 1), by omega, j + 1, rfl, by omega, rfl, hx7, by rw [hkk, hmap]⟩
  have hjt' : (j : Int) < (i : Int) := by omega
  obtain ⟨b2, o2, c2, heq, hrd, _⟩ := sub.at hjt
  cases heq
  rw [natV_at (l := c.ifs.take i) (by rw [List.length_take]; omega)] at hrd
  have hgd : (c.ifs.take i).getD j 0 = c.ifs.getD j 0 := by simp [List.getD, hjt]
  rw [hgd] at hrd
  have hkf2 := F.fit.ifs (c.ifs.getD j 0) (getD_mem (by omega))
  have htk2 := take_getD (l := c.ifs) (d := 0) (i := j) (by omega)
  have hmem : (clsOfS c.pool (c.ifs.getD j 0)).1 ∈ (c.ifs.take i).map fun k => (clsOfS c.pool k).1 := List.mem_map_of_mem (by rw [← hgd]; exact getD_mem (by rw [List.length_take]; omega))
  generalize c.ifs.getD j 0 = k2 at *
  have r2 : cellAt hd ⟨b2, o2 + j, none⟩ = some (.int .u16 (k2 : Int)) := by
    have := hrd 0 (.int .u16 (k2 : Int)) rfl
    simpa using this
  have w2 : IntKind.i64.wrap ((j : Int) + 1) = ((j + 1 : Nat) : Int) := by rw [wrap_i64 (by omega) (by omega)]; omega
  simp (disch := omega) only [C.rk_itself_gos, T.tv, seval, r2, va]
  refine eff_callF rfl ((rkclass_any (H.ext hx7) F k2 hkf2).mono ?_)
  rintro v8 h8 ⟨rfl, rfl⟩
  by_cases hn2 : nm = (clsOfS c.pool k2).1
  · rw [← hn2] at hmem
    rw [if_pos hmem] at hkk
    rw [hkk]
    simp only [C.rk_itself_gos, T.tv, ↓reduceIte, Nat.reduceEqDiff, reduceCtorEq, eq_true hn2]
    exact ⟨X.trans hx7, rfl⟩
  · simp only [C.rk_itself_gos, T.tv, seval, eq_false hn2, w2]
    refine ⟨i - (j + 1), by omega, j + 1, rfl, by omega, rfl, ?_⟩
    rw [htk2, List.map_append, List.mem_append]
    rintro (h | h)
    · exact hnm h
    · exact hn2 (by simpa using h)
set_option maxHeartbeats 8000000 in
theorem ritself_tail {h0 : Heap} {q : Nat} {face : Bool} {u5 u51 : Value} (X : Ext h0 h) (B : CB h q c vp vi vf vm) (H : RB h g c vp vi vf vm) (F : CF c) (hp : ∀ x ∈ c.pool, cstK c.pool x = 0) (hil : c.ifs.length ≤ 1073741824)
    (hface : face = decide (c.flags &&& 512 ≠ 0)) (hfl : flagK c.flags = false) :
    Cd.vc Tryz.prog C.rk_itself_t1 (retQ Tryz.prog [(2, none)] fun v h' => Ext h0 h' ∧ v = .int .i64 (itsK c : Nat))
      [(0, rkV g), (2, .int .i64 0), (3, .pointer (some ⟨q, 0, none⟩)), (4, .bool face), (5, u5), (6, undef), (7, undef), (8, undef), (9, undef), (10, undef), (11, undef), (12, undef), (13, undef), (14, undef), (15, undef), (17, undef), (18, undef),
      (51, u51), (87, undef), (90, undef), (91, undef), (92, undef), (93, undef), (111, undef), (116, undef), (117, undef), (118, undef), (119, undef), (130, undef)] h := by
  rw [C.rk_itself_t1_go]
  have c3 : cellAt h ⟨q, 3, none⟩ = some (.int .u16 (c.this : Int)) := B.at rfl
  have c4 : cellAt h ⟨q, 4, none⟩ = some (.int .u16 (c.super : Int)) := B.at rfl
  rw [itsK_hd hp hfl]
  unfold hdK
  have hob : decide (c.flags &&& 512 = 0) = !face := by rw [hface]; by_cases z : c.flags &&& 512 = 0 <;> simp [z]
  rw [hob]
  simp only [C.rk_itself_gos, T.tv, seval, c3]
  refine eff_callF rfl ((rkclass_any H F c.this F.fit.this).mono ?_)
  rintro v1 h1 ⟨rfl, rfl⟩
  simp only [C.rk_itself_gos, T.tv, seval, c4]
  refine eff_callF rfl ((rkclass_any H F c.super F.fit.super).mono ?_)
  rintro v2 h2 ⟨rfl, rfl⟩
  generalize clsOfS c.pool c.this = nk1 at *
  generalize clsOfS c.pool c.super = nk2 at *
  obtain ⟨n1, k1⟩ := nk1
  obtain ⟨n2, k2⟩ := nk2
  dsimp only
  simp only [C.rk_itself_gos, T.tv, seval]
  refine eff_callF rfl ((unless_any k1 7).mono ?_)
  rintro v3 h3 ⟨rfl, rfl⟩
  simp only [T.tv, seval]
  refine eff_callF rfl ((plain_any n1).mono ?_)
  rintro v4 h4 ⟨rfl, rfl⟩
  simp only [T.tv]
  refine eff_callF rfl ((unless_any (plnK n1) 8).mono ?_)
  rintro v5 h5 ⟨rfl, rfl⟩
  simp only [T.tv, seval]
  refine eff_callF rfl ((unless_any k2 7).mono ?_)
  rintro v6 h6 ⟨rfl, rfl⟩
  simp only [T.tv, seval]
  refine eff_callF rfl ((plain_any n2).mono ?_)
  rintro v7 h7 ⟨rfl, rfl⟩
  generalize unl k1 7 = e1 at *
  generalize unl (plnK n1) 8 = e2 at *
  generalize unl k2 7 = e3 at *
  have tail : ∀ b : Bool, b = (plnK n2 && (!face || decide (n2 = objN))) → HCalls Tryz.prog 34 #[.bool b, .int .i64 8] h7 fun v h' => h' = h7 ∧ v = .int .i64 (unl (plnK n2 && (!face || decide (n2 = objN))) 8 : Nat) := fun b hb => by rw [← hb]; exact unless_any b 8
  generalize hE4 : unl (plnK n2 && (!face || decide (n2 = objN))) 8 = e4 at *
  have go : ∀ b : Bool, b = (plnK n2 && (!face || decide (n2 = objN))) → HCalls Tryz.prog 34 #[.bool b, .int .i64 8] h7 fun v h' => h' = h7 ∧ v = .int .i64 (e4 : Nat) := fun b hb => by subst hE4; exact tail b hb
  clear tail
  have cs : (plnK n2 = false ∧ (n2 = n2) = True) ∨ (plnK n2 = true ∧ face = false ∧ (n2 = n2) = True) ∨ (plnK n2 = true ∧ face = true ∧ (n2 = [106, 97, 118, 97, 47, 108, 97, 110, 103, 47, 79, 98, 106, 101, 99, 116]) = True) ∨ (plnK n2 = true ∧ face = true ∧ (n2 = [106, 97, 118, 97, 47, 108, 97, 110, 103, 47, 79, 98, 106, 101, 99, 116]) = False) := by
    by_cases ho : n2 = [106, 97, 118, 97, 47, 108, 97, 110, 103, 47, 79, 98, 106, 101, 99, 116] <;> cases plnK n2 <;> cases face <;> simp [ho]
  have ho : objN = [106, 97, 118, 97, 47, 108, 97, 110, 103, 47, 79, 98, 106, 101, 99, 116] := rfl
  rcases cs with ⟨hpl, hq⟩ | ⟨hpl, rfl, hq⟩ | ⟨hpl, rfl, hq⟩ | ⟨hpl, rfl, hq⟩
  all_goals
    rw [hpl] at go ⊢
    simp only [T.tv, hq, seval]
    refine eff_callF rfl ((go _ (by simp [ho, hq])).mono ?_)
    rintro v8 h8 ⟨rfl, rfl⟩
    simp only [T.tv]
    refine eff_lits T.slT_80 rfl rfl (by simp []) ?_
    simp only [T.tv, seval]
    have E := Ext.push h8 (.cells #[.int .i64 (e1 : Int), .int .i64 (e2 : Int), .int .i64 (e3 : Int), .int .i64 (e4 : Int)] 31)
    have t7 : Sl (h8.push (.cells #[.int .i64 (e1 : Int), .int .i64 (e2 : Int), .int .i64 (e3 : Int), .int .i64 (e4 : Int)] 31)) (.slice (some ⟨h8.size, 0, none⟩) 4 4) (([e1, e2, e3, e4] : List Nat).map fun t : Nat => .int .i64 (t : Int)) := errs_sl (es := [e1, e2, e3, e4]) (Rd_new (vs := [.int .i64 (e1 : Int), .int .i64 (e2 : Int), .int .i64 (e3 : Int), .int .i64 (e4 : Int)]))
    generalize h8.push (.cells #[.int .i64 (e1 : Int), .int .i64 (e2 : Int), .int .i64 (e3 : Int), .int .i64 (e4 : Int)] 31) = h9 at *
    generalize h8.size = q5 at *
    refine eff_callF rfl ((one_any [e1, e2, e3, e4] (by simp) t7).mono ?_)
    rintro v9 h10 ⟨rfl, rfl⟩
    generalize firstE [e1, e2, e3, e4] = e at *
    by_cases he : e = 0
    · rw [if_neg (by omega)]
      simp (disch := omega) only [C.rk_itself_gos, T.tv, seval, va]
      exact ritself_loop (X.trans E) (B.ext E) (H.ext E) F hp hil
    · rw [if_pos he]
      simp (disch := omega) only [C.rk_itself_gos, T.tv, seval, va]
      exact X.trans E
set_option maxHeartbeats 8000000 in
theorem rkitself_any (H : RB h g c vp vi vf vm) (F : CF c) (hp : ∀ x ∈ c.pool, cstK c.pool x = 0) (hil : c.ifs.length ≤ 1073741824) :
    HCalls Tryz.prog 14 #[rkV g] h fun v h' => Ext h h' ∧ v = .int .i64 (itsK c : Nat) := by
  obtain ⟨_, ap, cp, hvp, _⟩ := id H.cls.p
  obtain ⟨_, ai, ci, hvi, _⟩ := id H.cls.i
  obtain ⟨_, af, cf, hvf, _⟩ := id H.cls.f
  obtain ⟨rws, _, hm2, _⟩ := id H.cls.m
  obtain ⟨_, am, cm, hvm, _⟩ := id hm2
  clear hm2
  subst hvp hvi hvf hvm
  refine C.rk_itself_calls (args := [rkV g]) rfl ?_
  have hld := ld_agg T.ag_28 (Rd_block H.blk) rfl
  simp only [ClsV] at hld
  simp only [C.rk_itself_gos, T.tv, seval, hld]
  refine eff_alloc_z T.zr_28 ?_
  simp only [T.tv, seval]
  refine eff_store_new_z T.zr_28 rfl rfl rfl (by simp [Value.cells, oneCell]) rfl ?_
  intro h2 x2 _ hrd2 b2
  have hL : h2[h.size]? = some (.cells (ClsV c (.slice ap c.pool.length cp) (.slice ai c.ifs.length ci) (.slice af c.fields.length cf) (.slice am c.methods.length cm)).toArray 28 (0, 0)) := b2
  have CBL : CB h2 h.size c (.slice ap c.pool.length cp) (.slice ai c.ifs.length ci) (.slice af c.fields.length cf) (.slice am c.methods.length cm) := ⟨hL, H.cls.ext x2⟩
  have H2 := H.ext x2
  clear hld hrd2 b2 hL
  generalize h.size = q at *
  have c2 : cellAt h2 ⟨q, 2, none⟩ = some (.int .u16 (c.flags : Int)) := CBL.at rfl
  have c3 : cellAt h2 ⟨q, 3, none⟩ = some (.int .u16 (c.this : Int)) := CBL.at rfl
  have c4 : cellAt h2 ⟨q, 4, none⟩ = some (.int .u16 (c.super : Int)) := CBL.at rfl
  have H5 := fun h => has_512 (h := h) c.flags F.fit.flags
  have HA := fun h => has_1024 (h := h) c.flags F.fit.flags
  have HF := fun h => has_16 (h := h) c.flags F.fit.flags
  have a3 : bitsV .and .u16 (c.flags : Int) 48 = ((c.flags &&& 48 : Nat) : Int) := and16 _ 48 F.fit.flags (by decide)
  simp only [C.rk_itself_gos, T.tv, seval, c2]
  refine eff_callF rfl ((H5 h2).mono ?_)
  rintro v3 h3 ⟨rfl, rfl⟩
  simp only [C.rk_itself_gos, T.tv, seval, c2]
  refine eff_callF rfl ((HA h3).mono ?_)
  rintro v4 h4 ⟨rfl, rfl⟩
  have hits : flagK c.flags = true → itsK c = 10 := fun hh => by unfold itsK; rw [if_pos hh]
  have tail := fun (face : Bool) (u5 u51 : Value) (h1' : face = decide (c.flags &&& 512 ≠ 0)) (h2' : flagK c.flags = false) => ritself_tail (h0 := h) (h := h4) (face := face) (u5 := u5) (u51 := u51) x2 CBL H2 F hp hil h1' h2'
  generalize itsK c = Z at *
  unfold flagK at tail hits
  generalize c.flags &&& 512 = f1 at *
  generalize c.flags &&& 1024 = f2 at *
  generalize c.flags &&& 48 = f3 at *
  generalize c.flags &&& 16 = f4 at *
  by_cases z1 : f1 = 0
  · rw [show decide (f1 ≠ 0) = false by simp [z1]]
    by_cases z2 : f2 = 0
    · rw [show decide (f2 ≠ 0) = false by simp [z2]]
      simp only [C.rk_itself_gos, T.tv, seval]
      exact tail _ _ _ (by simp [z1]) (by simp [z1, z2])
    · rw [show decide (f2 ≠ 0) = true by simp [z2]]
      simp only [C.rk_itself_gos, T.tv, seval, c2]
      refine eff_callF rfl ((HF h4).mono ?_)
      rintro v5 h5 ⟨rfl, rfl⟩
      by_cases z4 : f4 = 0
      · rw [show decide (f4 ≠ 0) = false by simp [z4]]
        simp only [T.tv, seval]
        exact tail _ _ _ (by simp [z1]) (by simp [z1, z4])
      · rw [show decide (f4 ≠ 0) = true by simp [z4], hits (by simp [z2, z4])]
        simp only [C.rk_itself_gos, T.tv, ↓reduceIte, Nat.reduceEqDiff, reduceCtorEq]
        exact ⟨x2, rfl⟩
  · rw [show decide (¬ f1 = 0) = true by simp [z1]]
    by_cases z2 : f2 = 0
    · rw [show decide (f2 ≠ 0) = false by simp [z2], hits (by simp [z1, z2])]
      simp only [C.rk_itself_gos, T.tv, ↓reduceIte, Nat.reduceEqDiff, reduceCtorEq]
      exact ⟨x2, rfl⟩
    · rw [show decide (f2 ≠ 0) = true by simp [z2]]
      by_cases z3 : f3 = 0
      · simp (disch := omega) only [C.rk_itself_gos, T.tv, seval, c2, a3, va]
        refine eff_callF rfl ((HF h4).mono ?_)
        rintro v5 h5 ⟨rfl, rfl⟩
        by_cases z4 : f4 = 0
        · rw [show decide (f4 ≠ 0) = false by simp [z4]]
          simp only [T.tv, seval]
          exact tail _ _ _ (by simp [z1]) (by simp [z2, z3, z4])
        · rw [show decide (f4 ≠ 0) = true by simp [z4], hits (by simp [z2, z4])]
          simp only [C.rk_itself_gos, T.tv, ↓reduceIte, Nat.reduceEqDiff, reduceCtorEq]
          exact ⟨x2, rfl⟩
      · rw [hits (by simp [z1, z3])]
        simp (disch := omega) only [C.rk_itself_gos, T.tv, ↓reduceIte, Nat.reduceEqDiff, reduceCtorEq, c2, a3, va]
        exact ⟨x2, rfl⟩
end
end Go.Proofs.YtflocjbhcjhenaaGreatDoor
namespace Go.Proofs.YtflocjbhcjhenaaGreatDoor
open Go.Vc
set_option maxRecDepth 100000
theorem and_mod7 (f m : Nat) (hm : m < 128) : f &&& m = f % 128 &&& m := by
  have h8 : (128 : Nat) = 2 ^ 7 := rfl
  rw [h8]
  apply Nat.eq_of_testBit_eq
  intro i
  rw [Nat.testBit_and, Nat.testBit_and, Nat.testBit_mod_two_pow]
  by_cases hi : i < 7
  · simp [hi]
  · have : m.testBit i = false := Nat.testBit_lt_two_pow (Nat.lt_of_lt_of_le hm (by rw [h8]; exact Nat.pow_le_pow_right (by decide) (by omega)))
    simp [this]
theorem cnt80 : ∀ f, f < 128 → decide (f &&& 80 = 80) = !decide (cntM f [16, 64] ≤ 1) := by decide +kernel
theorem most80 (f : Nat) : decide (f &&& 80 = 80) = !mostP f [16, 64] := by
  have h := cnt80 (f % 128) (by omega)
  have e : cntM f [16, 64] = cntM (f % 128) [16, 64] := by simp only [cntM]; rw [and_mod7 f 16 (by decide), and_mod7 f 64 (by decide)]
  rw [and_mod7 f 80 (by decide)]
  unfold mostP
  rw [h, e]
theorem rmemK_fld (na nd : List UInt8) : rmemK na nd true false = if memP na false = 0 then 8 else if fieldP nd = false then 9 else 0 := by
  unfold rmemK
  rw [if_pos rfl]
  by_cases m : memP na false = 0
  · rw [if_pos m, show decide (0 < memP na false) = false by simp [m]]; rfl
  · rw [if_neg m, show decide (0 < memP na false) = true by simp; omega]
    cases fieldP nd <;> rfl
theorem slA_0 {b o c size : Nat} : slA (some ⟨b, o, none⟩) c 0 size = some ⟨b, o, none⟩ := by
  unfold slA
  split
  · rfl
  · rw [Nat.zero_mul]; rfl
def ttF (p : List Cst) (f : Fld) : TT := (strS p f.name, strS p f.type)
section
variable {h : Heap} {g : Nat} {c : Cls} {vp vi vf vm : Value}
def fld2 (p : List Cst) (seen : List TT) (f : Fld) (na nd : List UInt8) : Nat := if (na, nd) ∈ seen then 11 else if f.value ≠ 0 ∧ valK p f.value nd = false then 7 else 0
theorem rfield_end {h0 : Heap} {q t : Nat} {u6 u81 u82 u83 u84 u112 u113 u114 u120 u122 u124 u126 : Value} (H : RB h g c vp vi vf vm) (X : Ext h0 h) (f : Fld) (hff : f.Fit) (nd : List UInt8) (hq : h[q]? = some (fldO f)) :
    Cd.vc Tryz.prog C.rk_field_t0 (retQ Tryz.prog [(4, none)] fun v h' => Ext h0 h' ∧ v = .int .i64 (unl (decide (t ≠ 0) && isS c.pool f.value t) 7 : Nat))
      [(0, rkV g), (5, .pointer (some ⟨q, 0, none⟩)), (6, u6), (8, str nd), (17, .int .u8 (t : Int)), (81, u81), (82, u82), (83, u83), (113, u113), (114, u114), (120, u120), (122, u122), (124, u124), (126, u126), (84, u84), (112, u112)] h := by
  rw [C.rk_field_t0_go]
  have hfv := hff.value
  have c5 : cellAt h ⟨g, 5, none⟩ = some vp := H.at rfl
  have k3 : cellAt h ⟨q, 3, none⟩ = some (.int .u16 (f.value : Int)) := by rw [cellAt_of hq]; rfl
  have w1 : IntKind.i64.wrap (f.value : Int) = (f.value : Int) := wrap_i64 (by omega) (by omega)
  by_cases t0 : t = 0
  · rw [show decide (t ≠ 0) = false by simp [t0], Bool.false_and]
    simp (disch := omega) only [C.rk_field_gos, T.tv, seval, va]
    refine eff_callF rfl ((unless_any false 7).mono ?_)
    rintro v3 h3 ⟨rfl, rfl⟩
    simp only [T.tv, seval]
    exact X
  · rw [show decide (t ≠ 0) = true by simp [t0], Bool.true_and]
    simp (disch := omega) only [C.rk_field_gos, T.tv, seval, c5, k3, w1, va]
    refine eff_callF rfl ((ris_any f.value t H.cls.p).mono ?_)
    rintro v2 h2 ⟨rfl, rfl⟩
    simp only [T.tv, seval]
    refine eff_callF rfl ((unless_any (isS c.pool f.value t) 7).mono ?_)
    rintro v3 h3 ⟨rfl, rfl⟩
    simp only [T.tv, seval]
    exact X
theorem rfield_value {h0 : Heap} {q : Nat} {u6 u81 u82 u83 u84 u112 : Value} (H : RB h g c vp vi vf vm) (X : Ext h0 h) (f : Fld) (hff : f.Fit) (nd : List UInt8) (hq : h[q]? = some (fldO f)) :
    Cd.vc Tryz.prog C.rk_field_t1 (retQ Tryz.prog [(4, none)] fun v h' => Ext h0 h' ∧ v = .int .i64 (unl (valK c.pool f.value nd) 7 : Nat))
      [(0, rkV g), (5, .pointer (some ⟨q, 0, none⟩)), (6, u6), (8, str nd), (17, undef), (81, u81), (82, u82), (83, u83), (113, undef), (114, undef), (120, undef), (122, undef), (124, undef), (126, undef), (84, u84), (112, u112)] h := by
  rw [C.rk_field_t1_go]
  have go := fun (t : Nat) (u112 u113 u114 u120 u122 u124 u126 : Value) => rfield_end (t := t) (u6 := u6) (u81 := u81) (u82 := u82) (u83 := u83) (u84 := u84) (u112 := u112) (u113 := u113) (u114 := u114) (u120 := u120) (u122 := u122) (u124 := u124) (u126 := u126) H X f hff nd hq
  unfold valK
  by_cases n0 : nd = [73]
  · rw [show valT nd = 3 by rw [n0]; rfl]
    simp only [C.rk_field_gos, T.tv, seval, eq_true n0]
    exact go 3 _ _ _ _ _ _ _
  by_cases n1 : nd = [83]
  · rw [show valT nd = 3 by rw [n1]; rfl]
    simp only [C.rk_field_gos, T.tv, seval, eq_false n0, eq_true n1]
    exact go 3 _ _ _ _ _ _ _
  by_cases n2 : nd = [67]
  · rw [show valT nd = 3 by rw [n2]; rfl]
    simp only [C.rk_field_gos, T.tv, seval, eq_false n0, eq_false n1, eq_true n2]
    exact go 3 _ _ _ _ _ _ _
  by_cases n3 : nd = [66]
  · rw [show valT nd = 3 by rw [n3]; rfl]
    simp only [C.rk_field_gos, T.tv, seval, eq_false n0, eq_false n1, eq_false n2, eq_true n3]
    exact go 3 _ _ _ _ _ _ _
  by_cases n4 : nd = [90]
  · rw [show valT nd = 3 by rw [n4]; rfl]
    simp only [C.rk_field_gos, T.tv, seval, eq_false n0, eq_false n1, eq_false n2, eq_false n3, eq_true n4]
    exact go 3 _ _ _ _ _ _ _
  by_cases n5 : nd = [74]
  · rw [show valT nd = 5 by rw [n5]; rfl]
    simp only [C.rk_field_gos, T.tv, seval, eq_false n0, eq_false n1, eq_false n2, eq_false n3, eq_false n4, eq_true n5]
    exact go 5 _ _ _ _ _ _ _
  by_cases n6 : nd = [70]
  · rw [show valT nd = 4 by rw [n6]; rfl]
    simp only [C.rk_field_gos, T.tv, seval, eq_false n0, eq_false n1, eq_false n2, eq_false n3, eq_false n4, eq_false n5, eq_true n6]
    exact go 4 _ _ _ _ _ _ _
  by_cases n7 : nd = [68]
  · rw [show valT nd = 6 by rw [n7]; rfl]
    simp only [C.rk_field_gos, T.tv, seval, eq_false n0, eq_false n1, eq_false n2, eq_false n3, eq_false n4, eq_false n5, eq_false n6, eq_true n7]
    exact go 6 _ _ _ _ _ _ _
  by_cases n8 : nd = [76, 106, 97, 118, 97, 47, 108, 97, 110, 103, 47, 83, 116, 114, 105, 110, 103, 59]
  · rw [show valT nd = 8 by rw [n8]; rfl]
    simp only [C.rk_field_gos, T.tv, seval, eq_false n0, eq_false n1, eq_false n2, eq_false n3, eq_false n4, eq_false n5, eq_false n6, eq_false n7, eq_true n8]
    exact go 8 _ _ _ _ _ _ _
  rw [show valT nd = 0 by unfold valT strN; simp only [n0, n1, n2, n3, n4, n5, n6, n7, n8, or_self, if_false]]
  simp only [C.rk_field_gos, T.tv, seval, eq_false n0, eq_false n1, eq_false n2, eq_false n3, eq_false n4, eq_false n5, eq_false n6, eq_false n7, eq_false n8]
  exact go 0 _ _ _ _ _ _ _
set_option maxHeartbeats 800000 in
theorem rfield_seen {h0 : Heap} {q b o cf : Nat} {u7 u9 u10 u45 u50 u74 : Value} (H : RB h g c vp vi (.slice (some ⟨b, o, none⟩) c.fields.length cf) vm) (F : CF c) (X : Ext h0 h) (i : Nat) (hi : i < c.fields.length) (hfl : c.fields.length ≤ 1073741824) (f : Fld) (hff : f.Fit) (na nd : List UInt8)
    (hq : h[q]? = some (fldO f)) :
    Cd.vc Tryz.prog C.rk_field_t2 (retQ Tryz.prog [(4, none)] fun v h' => Ext h0 h' ∧ v = .int .i64 (fld2 c.pool ((c.fields.take i).map (ttF c.pool)) f na nd : Nat))
      [(0, rkV g), (1, .int .i64 (i : Int)), (4, .int .i64 0), (5, .pointer (some ⟨q, 0, none⟩)), (6, str na), (7, u7), (8, str nd), (9, u9), (10, u10), (12, undef), (13, undef), (15, undef), (17, undef), (45, u45), (50, u50), (74, u74), (81, undef), (82, undef), (83, undef), (84, undef), (108, undef), (112, undef), (113, undef), (114, undef), (120, undef), (122, undef), (124, undef), (126, undef)] h := by
  rw [C.rk_field_t2_go]
  have c7 : cellAt h ⟨g, 7, none⟩ = some (.slice (some ⟨b, o, none⟩) c.fields.length cf) := H.at rfl
  have hcap : c.fields.length ≤ cf := H.cls.fc
  have s0 : (0 : Int) ≤ (i : Int) := by omega
  have s1 : (i : Int) ≤ (cf : Int) := by omega
  simp (disch := omega) only [C.rk_field_gos, T.tv, seval, c7, Nat.sub_zero, slA_0]
  refine loop_intro [0, 5, 6, 8, 17, 81, 82, 83, 113, 114, 120, 122, 124, 126] (fun m ρ hd => ∃ j : Nat, m = i - j ∧ j ≤ i ∧
    ρ = [(0, rkV g), (5, .pointer (some ⟨q, 0, none⟩)), (6, str na), (8, str nd), (17, undef), (81, .slice (some ⟨b, o, none⟩) i cf), (82, .int .i64 (i : Int)), (83, .int .i64 (j : Int)), (113, undef), (114, undef), (120, undef), (122, undef), (124, undef), (126, undef)] ∧ Ext h hd ∧
    (na, nd) ∉ (c.fields.take j).map (ttF c.pool)) ?_ ?_
  · simp only [T.tv, seval]
    exact ⟨_, 0, rfl, Nat.zero_le _, rfl, Ext.refl _, by simp⟩
  rintro m ρ hd ⟨j, rfl, hj, rfl, hx, hnm⟩
  by_cases hjt : j < i
  case neg =>
    have hjt' : ¬ (j : Int) < (i : Int) := by omega
    have : j = i := by omega
    subst this
    unfold fld2
    rw [if_neg hnm]
    have hqd := Fr_blk hx hq _root_.id
    have k3 : cellAt hd ⟨q, 3, none⟩ = some (.int .u16 (f.value : Int)) := by rw [cellAt_of hqd]; rfl
    by_cases v0 : f.value = 0
    · rw [if_neg (by simp [v0])]
      simp (disch := omega) only [C.rk_field_gos, T.tv, ↓reduceIte, Nat.reduceEqDiff, reduceCtorEq, hjt', k3, va]
      exact ⟨X.trans hx, rfl⟩
    simp (disch := omega) only [C.rk_field_gos, T.tv, seval, hjt', k3, va]
    have e : (if f.value ≠ 0 ∧ valK c.pool f.value nd = false then 7 else 0) = unl (valK c.pool f.value nd) 7 := by unfold unl; cases valK c.pool f.value nd <;> simp [v0]
    rw [e]
    exact rfield_value (H.ext hx) (X.trans hx) f hff nd hqd
  have hjt' : (j : Int) < (i : Int) := by omega
  obtain ⟨_, _, _, heq, hrd, _⟩ := (H.ext hx).cls.f.at (i := j) (by omega)
  cases heq
  rw [flatF_at (by omega)] at hrd
  have hf2 := F.fit.fields _ (getD_mem (d := Fld.zero) (i := j) (l := c.fields) (by omega))
  have htk2 := take_getD (l := c.fields) (d := Fld.zero) (i := j) (by omega)
  have hmem : ttF c.pool (c.fields.getD j Fld.zero) ∈ (c.fields.take i).map (ttF c.pool) := by
    refine List.mem_map_of_mem ?_
    have hgd : (c.fields.take i).getD j Fld.zero = c.fields.getD j Fld.zero := by simp [List.getD, hjt]
    rw [← hgd]; exact getD_mem (by rw [List.length_take]; omega)
  generalize c.fields.getD j Fld.zero = f2 at *
  have hld := ld_agg T.ag_51 hrd rfl
  simp only [Fld.cells] at hld
  simp (disch := omega) only [C.rk_field_gos, T.tv, seval, hld, hjt']
  refine eff_alloc_z T.zr_51 ?_
  simp only [T.tv, seval]
  refine eff_store_new_z T.zr_51 rfl rfl rfl (by simp [Value.cells, oneCell]) rfl ?_
  intro h7 x7 _ hrd7 b7
  have k1 : cellAt h7 ⟨hd.size, 1, none⟩ = some (.int .u16 (f2.name : Int)) := hrd7 1 _ rfl
  have k2 : cellAt h7 ⟨hd.size, 2, none⟩ = some (.int .u16 (f2.type : Int)) := hrd7 2 _ rfl
  clear hrd7 hld hrd
  generalize hd.size = q7 at *
  have hx7 := hx.trans x7
  have H7 := H.ext hx7
  have w2 : IntKind.i64.wrap ((j : Int) + 1) = ((j + 1 : Nat) : Int) := by rw [wrap_i64 (by omega) (by omega)]; omega
  simp only [C.rk_field_gos, T.tv, seval, k1]
  refine eff_callF rfl ((rktext_any H7 f2.name hf2.name).mono ?_)
  rintro v8 h8 ⟨rfl, rfl⟩
  simp only [C.rk_field_gos, T.tv, seval, k2]
  refine eff_callF rfl ((rktext_any H7 f2.type hf2.type).mono ?_)
  rintro v9 h9 ⟨rfl, rfl⟩
  have htt : ttF c.pool f2 = (strS c.pool f2.name, strS c.pool f2.type) := rfl
  rw [htt] at hmem
  generalize strS c.pool f2.name = n2 at *
  generalize strS c.pool f2.type = d2 at *
  have no : ¬ (n2 = na ∧ d2 = nd) → (na, nd) ∉ (c.fields.take (j + 1)).map (ttF c.pool) := by
    intro hne
    rw [htk2, List.map_append, List.mem_append]
    rintro (h | h)
    · exact hnm h
    · rw [List.map_singleton, List.mem_singleton, htt, Prod.mk.injEq] at h
      exact hne ⟨h.1.symm, h.2.symm⟩
  by_cases e1 : n2 = na
  · by_cases e2 : d2 = nd
    · rw [e1, e2] at hmem
      unfold fld2
      rw [if_pos hmem]
      simp only [C.rk_field_gos, T.tv, ↓reduceIte, Nat.reduceEqDiff, reduceCtorEq, eq_true e1, eq_true e2]
      exact ⟨X.trans hx7, rfl⟩
    · simp only [C.rk_field_gos, T.tv, seval, eq_true e1, eq_false e2, w2]
      exact ⟨i - (j + 1), by omega, j + 1, rfl, by omega, rfl, hx7, no fun h => e2 h.2⟩
  · simp only [C.rk_field_gos, T.tv, seval, eq_false e1, w2]
    exact ⟨i - (j + 1), by omega, j + 1, rfl, by omega, rfl, hx7, no fun h => e1 h.1⟩
set_option maxHeartbeats 800000 in
theorem rkfield_any (H : RB h g c vp vi vf vm) (F : CF c) (i : Nat) (hi : i < c.fields.length) (hfl : c.fields.length ≤ 1073741824) :
    HCalls Tryz.prog 15 #[rkV g, .int .i64 (i : Int)] h fun v h' => Ext h h' ∧ v = .int .i64 (fldK c.flags c.pool ((c.fields.take i).map (ttF c.pool)) (c.fields.getD i Fld.zero) : Nat) := by
  obtain ⟨_, af, cf, hvf, _⟩ := id H.cls.f
  subst hvf
  refine C.rk_field_calls (args := [rkV g, .int .i64 (i : Int)]) rfl ?_
  have c7 : cellAt h ⟨g, 7, none⟩ = some (.slice af c.fields.length cf) := H.at rfl
  have hi' : (i : Int) < (c.fields.length : Int) := by omega
  have hcap : c.fields.length ≤ cf := H.cls.fc
  obtain ⟨b, o, c', heq, hrd, _⟩ := H.cls.f.at hi
  cases heq
  rw [flatF_at hi] at hrd
  have hff := F.fit.fields _ (getD_mem (d := Fld.zero) hi)
  generalize hfd : c.fields.getD i Fld.zero = f at *
  have hld := ld_agg T.ag_51 hrd rfl
  simp only [Fld.cells] at hld
  simp (disch := omega) only [C.rk_field_gos, T.tv, seval, c7, hld]
  refine eff_alloc_z T.zr_51 ?_
  simp only [T.tv, seval]
  refine eff_store_new_z T.zr_51 rfl rfl rfl (by simp [Value.cells, oneCell]) rfl ?_
  intro h2 x2 _ hrd2 b2
  have H2 := H.ext x2
  have k0 : cellAt h2 ⟨h.size, 0, none⟩ = some (.int .u16 (f.flags : Int)) := hrd2 0 _ rfl
  have k1 : cellAt h2 ⟨h.size, 1, none⟩ = some (.int .u16 (f.name : Int)) := hrd2 1 _ rfl
  have k2 : cellAt h2 ⟨h.size, 2, none⟩ = some (.int .u16 (f.type : Int)) := hrd2 2 _ rfl
  have k3 : cellAt h2 ⟨h.size, 3, none⟩ = some (.int .u16 (f.value : Int)) := hrd2 3 _ rfl
  clear hrd2 hld
  generalize h.size = q at *
  have la := F.str f.name
  have lb := F.str f.type
  have H80 := fun h => has_any (h := h) f.flags 80 hff.flags (by decide)
  have H512 := fun h => has_512 (h := h) c.flags F.fit.flags
  have a2 : bitsV .and .u16 (f.flags : Int) 223 = ((f.flags &&& 223 : Nat) : Int) := and16 _ 223 hff.flags (by decide)
  have c2 : cellAt h2 ⟨g, 2, none⟩ = some (.int .u16 (c.flags : Int)) := H2.at rfl
  rw [most80] at H80
  simp only [C.rk_field_gos, T.tv, seval, k1]
  refine eff_callF rfl ((rktext_any H2 f.name hff.name).mono ?_)
  rintro v3 h3 ⟨rfl, rfl⟩
  simp only [C.rk_field_gos, T.tv, seval, k2]
  refine eff_callF rfl ((rktext_any H2 f.type hff.type).mono ?_)
  rintro v4 h4 ⟨rfl, rfl⟩
  unfold fldK
  have hsn : ttF c.pool f = (strS c.pool f.name, strS c.pool f.type) := rfl
  generalize strS c.pool f.name = na at *
  generalize strS c.pool f.type = nd at *
  generalize isS c.pool f.name 1 = i1 at *
  generalize isS c.pool f.type 1 = i2 at *
  cases i1 with
  | false =>
    rw [if_pos (.inl rfl)]
    simp only [C.rk_field_gos, T.tv, ↓reduceIte, Nat.reduceEqDiff, reduceCtorEq]
    exact ⟨x2, rfl⟩
  | true =>
    cases i2 with
    | false =>
      rw [if_pos (.inr rfl)]
      simp only [C.rk_field_gos, T.tv, ↓reduceIte, Nat.reduceEqDiff, reduceCtorEq]
      exact ⟨x2, rfl⟩
    | true =>
      rw [if_neg (by simp)]
      simp only [C.rk_field_gos, T.tv, seval]
      refine eff_callF rfl ((rmemberK_any na nd la lb true false).mono ?_)
      rintro v5 h5 ⟨x5, rfl⟩
      rw [rmemK_fld]
      have xx5 := x2.trans x5
      by_cases m0 : memP na false = 0
      · rw [if_pos m0]
        simp only [C.rk_field_gos, T.tv, seval, m0, va]
        exact xx5
      rw [if_neg m0]
      cases hfp : fieldP nd with
      | false =>
        rw [if_pos rfl]
        simp only [C.rk_field_gos, T.tv, seval, m0, va]
        exact xx5
      | true =>
        rw [if_neg (by simp)]
        have hq5 := Fr_blk x5 b2 _root_.id
        have H5 := H2.ext x5
        obtain ⟨k0, c2⟩ : cellAt h5 ⟨q, 0, none⟩ = some (.int .u16 (f.flags : Int)) ∧ cellAt h5 ⟨g, 2, none⟩ = some (.int .u16 (c.flags : Int)) := ⟨by rw [cellAt_of hq5]; rfl, H5.at rfl⟩
        have seen := fun (u7 u9 u10 u45 u50 u74 : Value) => rfield_seen (u7 := u7) (u9 := u9) (u10 := u10) (u45 := u45) (u50 := u50) (u74 := u74) H5 F xx5 i hi hfl f hff na nd hq5
        have hs : (if (na, nd) ∈ (c.fields.take i).map (ttF c.pool) then 11 else if f.value ≠ 0 ∧ valK c.pool f.value nd = false then 7 else 0) = fld2 c.pool ((c.fields.take i).map (ttF c.pool)) f na nd := rfl
        rw [hs]
        generalize fld2 c.pool ((c.fields.take i).map (ttF c.pool)) f na nd = Z at *
        rw [if_neg m0, if_neg (show ¬ (true = false) by decide)]
        simp only [C.rk_field_gos, T.tv, seval, k0, va]
        refine eff_callF rfl ((rmost_any f.flags hff.flags).mono ?_)
        rintro v6 h6 ⟨rfl, rfl⟩
        cases mostP f.flags [1, 2, 4] with
        | false =>
          rw [if_pos (.inl rfl)]
          simp only [C.rk_field_gos, T.tv, ↓reduceIte, Nat.reduceEqDiff, reduceCtorEq]
          exact ⟨xx5, rfl⟩
        | true =>
          simp only [T.tv, k0, seval]
          refine eff_callF rfl ((H80 h6).mono ?_)
          rintro v7 h7 ⟨rfl, rfl⟩
          cases mostP f.flags [16, 64] with
          | false =>
            rw [if_pos (.inr rfl)]
            simp only [C.rk_field_gos, T.tv, ↓reduceIte, Nat.reduceEqDiff, reduceCtorEq]
            exact ⟨xx5, rfl⟩
          | true =>
            rw [if_neg (by simp)]
            simp only [T.tv, c2, seval]
            refine eff_callF rfl ((H512 h7).mono ?_)
            rintro v8 h8 ⟨rfl, rfl⟩
            generalize c.flags &&& 512 = f5 at *
            generalize f.flags &&& 223 = f2 at *
            by_cases z5 : f5 = 0
            · rw [if_neg (by simp [z5]), show decide (f5 ≠ 0) = false by simp [z5]]
              simp only [T.tv, seval]
              exact seen _ _ _ _ _ _
            · rw [show decide (f5 ≠ 0) = true by simp [z5]]
              by_cases z2 : f2 = 25
              · rw [if_neg (by simp [z2])]
                simp (disch := omega) only [T.tv, k0, seval, a2, va]
                exact seen _ _ _ _ _ _
              · rw [if_pos ⟨z5, z2⟩]
                simp (disch := omega) only [C.rk_field_gos, T.tv, ↓reduceIte, Nat.reduceEqDiff, reduceCtorEq, k0, a2, va]
                exact ⟨xx5, rfl⟩
end
end Go.Proofs.YtflocjbhcjhenaaGreatDoor
namespace Go.Proofs.YtflocjbhcjhenaaGreatDoor
open Go.Vc
set_option maxRecDepth 100000
theorem rmemK_mth (na nd : List UInt8) (h3 : memP na true ≠ 3) : rmemK na nd false true = if memP na true = 0 then 8 else if (methP nd).isSome = false ∨ (memP na true = 2 ∧ mG nd ≠ [86]) then 9 else 0 := by
  unfold rmemK
  rw [if_neg (by decide)]
  have h4 := memP_lt na true
  generalize memP na true = m at *
  generalize (methP nd).isSome = k at *
  generalize mG nd = gv at *
  have : m = 0 ∨ m = 1 ∨ m = 2 := by omega
  rcases this with rfl | rfl | rfl
  · rfl
  · cases k <;> rfl
  · cases k
    · rfl
    · by_cases hg : gv = [86]
      · rw [hg]; rfl
      · rw [if_neg (by decide), if_pos (.inr ⟨rfl, hg⟩), show decide (gv = [86]) = false by simp [hg]]; rfl
def ttM (p : List Cst) (m : Mth) : TT := (strS p m.name, strS p m.type)
def mth2 (p : List Cst) (m : Mth) (nd : List UInt8) : Int × Int := if decide (m.flags &&& 1280 ≠ 0) = m.has then (13, 0) else if m.flags &&& 1280 ≠ 0 then (0, 0) else endK p m nd
def mth1 (p : List Cst) (seen : List TT) (m : Mth) (na nd : List UInt8) : Int × Int := if (na, nd) ∈ seen then (11, 0) else mth2 p m nd
section
variable {h : Heap} {g : Nat} {c : Cls} {vp vi vf vm : Value}
set_option maxHeartbeats 800000 in
theorem rmethod_slots {h0 : Heap} {q base : Nat} {vH u7 u75 u76 u77 u78 u18 u111 u112 u115 : Value} (H : RB h g c vp vi vf vm) (F : CF c) (X : Ext h0 h) (m : Mth) (nd : List UInt8) (qc : h[q]? = some (mthO m vH))
    (hmf : m.Fit) (hH : SlN h 4 vH m.code.hs.length (flatH m.code.hs)) (hbl : m.code.bytes.length ≤ 1073741824) (hhl : m.code.hs.length ≤ 1073741824) (lb : nd.length ≤ 4294967296) (hb : base ≤ 1) :
    Cd.vc Tryz.prog C.rk_method_t0 (retQ Tryz.prog [(4, none), (5, none)] fun v h' => Ext h0 h' ∧ v = .tuple #[.int .i64 (if m.code.maxL < ((slotsP (mT nd) + base : Nat) : Int) then (12, 0) else codK c.pool m.code : Int × Int).1, .int .i64 (if m.code.maxL < ((slotsP (mT nd) + base : Nat) : Int) then (12, 0) else codK c.pool m.code : Int × Int).2])
      [(0, rkV g), (6, .pointer (some ⟨q, 0, none⟩)), (7, u7), (9, str nd), (75, u75), (76, u76), (77, u77), (78, u78), (18, u18), (111, u111), (112, u112), (19, .int .i64 (base : Int)), (115, u115)] h := by
  rw [C.rk_method_t0_go]
  have hml := mT_len nd
  simp only [C.rk_method_gos, T.tv, seval]
  refine eff_callF rfl ((rmethod_any nd lb).mono ?_)
  rintro v2 h2 ⟨x2, hmv⟩
  obtain ⟨sv, rfl, hsv⟩ := MethV_parts hmv
  obtain ⟨a9, c9, rfl, _⟩ := id hsv
  rw [List.length_map] at hsv ⊢
  generalize mT nd = ts at *
  have b2 := Fr_blk x2 qc _root_.id
  have c5 : cellAt h2 ⟨q, 5, none⟩ = some (.int .i64 m.code.maxL) := by rw [cellAt_of b2]; rfl
  have hrd := Rd_block (vs := [.int .u16 (m.flags : Int), .int .u16 (m.name : Int), .int .u16 (m.type : Int), .bool m.has, .int .i64 m.code.maxS, .int .i64 m.code.maxL, str m.code.bytes, vH, str m.code.map]) b2
  have hrc : Rd h2 q 4 [.int .i64 m.code.maxS, .int .i64 m.code.maxL, str m.code.bytes, vH, str m.code.map] := by
    intro j v hv
    have := hrd (4 + j) v (by
      rw [show 4 + j = j + 4 by omega]
      simpa using hv)
    simpa using this
  have hld := ld_agg T.ag_41 hrc rfl
  simp only [C.rk_method_gos, T.tv, seval]
  refine loop_intro [0, 6, 19, 122, 123, 124] (fun m ρ hc => ∃ i : Nat, m = ts.length - i ∧ i ≤ ts.length ∧
    ρ = [(0, rkV g), (6, .pointer (some ⟨q, 0, none⟩)), (19, .int .i64 ((slotsP (ts.take i) + base : Nat) : Int)), (122, .slice a9 ts.length c9), (123, .int .i64 (ts.length : Int)), (124, .int .i64 (i : Int))] ∧ hc = h2) ?_ ?_
  · simp only [T.tv, seval]
    exact ⟨_, 0, rfl, Nat.zero_le _, by simp [slotsP]⟩
  rintro m' ρ hc ⟨i, rfl, hi, rfl, rfl⟩
  have hsl := slotsP_take (ts := ts) i
  by_cases hlt : i < ts.length
  · have hlt' : (i : Int) < (ts.length : Int) := by omega
    obtain ⟨b1, o1, c1', heq1, _, hcell1⟩ := hsv.at (i := i) (by simpa using hlt)
    rw [List.length_map] at heq1
    cases heq1
    have e1 : cellAt hc ⟨b1, o1 + i, none⟩ = some (str (ts.getD i [])) := by rw [hcell1]; simp [hlt]
    have hst : ts.take (i + 1) = ts.take i ++ [ts.getD i []] := take_getD hlt
    generalize ts.getD i [] = t at *
    have hsp := slotP_le t
    have w1 : IntKind.i64.wrap ((i : Int) + 1) = ((i + 1 : Nat) : Int) := by rw [wrap_i64 (by omega) (by omega)]; omega
    have w2 : IntKind.i64.wrap (((slotsP (ts.take i) + base : Nat) : Int) + (slotP t : Int)) = ((slotsP (ts.take (i + 1)) + base : Nat) : Int) := by
      rw [hst, slotsP_snoc, wrap_i64 (by omega) (by omega)]; omega
    simp (disch := omega) only [C.rk_method_gos, T.tv, seval, hlt', e1]
    refine eff_callF rfl ((rslots_any t).mono ?_)
    rintro v9 h9 ⟨rfl, rfl⟩
    simp only [C.rk_method_gos, T.tv, seval, w1, w2]
    exact ⟨ts.length - (i + 1), by omega, i + 1, rfl, by omega, rfl⟩
  have hlt' : ¬ (i : Int) < (ts.length : Int) := by omega
  rw [List.take_of_length_le (show ts.length ≤ i by omega)] at hsl ⊢
  generalize slotsP ts + base = sb at *
  by_cases hmx : m.code.maxL < (sb : Int)
  · rw [if_pos hmx]
    simp only [C.rk_method_gos, T.tv, seval, hlt', c5, hmx]
    exact X.trans x2
  · rw [if_neg hmx]
    simp only [C.rk_method_gos, T.tv, seval, hlt', c5, hmx, hld]
    obtain ⟨_, ah, ch, rfl, _⟩ := id hH
    refine eff_callF rfl ((rkcode_any (H.ext x2) F m.code hmf.code (hH.ext (by decide) x2) hbl hhl).mono ?_)
    rintro v5 h5 ⟨x5, rfl⟩
    simp only [T.tv, seval]
    exact (X.trans x2).trans x5
set_option maxHeartbeats 800000 in
theorem rmethod_end {h0 : Heap} {q : Nat} {vH u7 u75 u76 u77 u78 : Value} (H : RB h g c vp vi vf vm) (F : CF c) (X : Ext h0 h) (m : Mth) (nd : List UInt8) (qc : h[q]? = some (mthO m vH))
    (hmf : m.Fit) (hH : SlN h 4 vH m.code.hs.length (flatH m.code.hs)) (hbl : m.code.bytes.length ≤ 1073741824) (hhl : m.code.hs.length ≤ 1073741824) (lb : nd.length ≤ 4294967296) :
    Cd.vc Tryz.prog C.rk_method_t1 (retQ Tryz.prog [(4, none), (5, none)] fun v h' => Ext h0 h' ∧ v = .tuple #[.int .i64 (mth2 c.pool m nd).1, .int .i64 (mth2 c.pool m nd).2])
      [(0, rkV g), (6, .pointer (some ⟨q, 0, none⟩)), (7, u7), (9, str nd), (75, u75), (76, u76), (77, u77), (78, u78)] h := by
  rw [C.rk_method_t1_go]
  have key : ∀ h3, Ext h h3 → cellAt h3 ⟨q, 0, none⟩ = some (.int .u16 (m.flags : Int)) ∧ cellAt h3 ⟨q, 3, none⟩ = some (.bool m.has) ∧ cellAt h3 ⟨q, 5, none⟩ = some (.int .i64 m.code.maxL) ∧ RB h3 g c vp vi vf vm := by
    intro h3 x3
    have b2 := Fr_blk x3 qc _root_.id
    refine ⟨?_, ?_, ?_, H.ext x3⟩
    all_goals rw [cellAt_of b2]; rfl
  obtain ⟨k0, k3, k5, _⟩ := key h (Ext.refl _)
  have a1 : bitsV .and .u16 (m.flags : Int) 1280 = ((m.flags &&& 1280 : Nat) : Int) := and16 _ 1280 hmf.flags (by decide)
  have H8 := fun h => has_8 (h := h) m.flags hmf.flags
  have hends : endK c.pool m nd = if m.code.maxL < ((slotsP (mT nd) + (if m.flags &&& 8 = 0 then 1 else 0) : Nat) : Int) then (12, 0) else codK c.pool m.code := rfl
  unfold mth2
  rw [hends]
  generalize m.flags &&& 1280 = f1 at *
  generalize m.flags &&& 8 = f8 at *
  generalize hhas : m.has = hs at *
  by_cases z1 : f1 ≠ 0
  · rw [show decide (f1 ≠ 0) = true by simp [z1]]
    cases hs with
    | true =>
      rw [if_pos rfl]
      simp (disch := omega) only [C.rk_method_gos, T.tv, seval, k0, k3, a1, va]
      exact X
    | false =>
      rw [if_neg (by decide), if_pos z1]
      simp (disch := omega) only [C.rk_method_gos, T.tv, seval, k0, k3, a1, va]
      exact X
  rw [show decide (f1 ≠ 0) = false by simp; omega]
  have z1' : f1 = 0 := by omega
  cases hs with
  | false =>
    rw [if_pos rfl]
    simp (disch := omega) only [C.rk_method_gos, T.tv, seval, k0, k3, a1, va]
    exact X
  | true =>
    rw [if_neg (by decide), if_neg z1]
    simp (disch := omega) only [C.rk_method_gos, T.tv, seval, k0, k3, a1, va]
    refine eff_callF rfl ((H8 h).mono ?_)
    rintro v1 h1 ⟨rfl, rfl⟩
    have go := fun (base : Nat) (hb : base ≤ 1) (u18 u111 u112 u115 : Value) => rmethod_slots (base := base) (u7 := u7) (u75 := u75) (u76 := u76) (u77 := u77) (u78 := u78) (u18 := u18) (u111 := u111) (u112 := u112) (u115 := u115) H F X m nd qc hmf hH hbl hhl lb hb
    by_cases z8 : f8 = 0
    · rw [show decide (f8 ≠ 0) = false by simp [z8], if_pos z8]
      simp only [T.tv, seval]
      exact go 1 (by omega) _ _ _ _
    · rw [show decide (f8 ≠ 0) = true by simp [z8], if_neg z8]
      simp only [C.rk_method_gos, T.tv, seval]
      exact go 0 (by omega) _ _ _ _
set_option maxHeartbeats 800000 in
theorem rmethod_seen {h0 : Heap} {q b o cm : Nat} {vH u8 u10 u11 u52 u54 u56 u61 u68 : Value} (H : RB h g c vp vi vf (.slice (some ⟨b, o, none⟩) c.methods.length cm)) (F : CF c) (X : Ext h0 h) (i : Nat) (hi : i < c.methods.length) (hml : c.methods.length ≤ 1073741824) (m : Mth) (na nd : List UInt8) (qc : h[q]? = some (mthO m vH))
    (hmf : m.Fit) (hH : SlN h 4 vH m.code.hs.length (flatH m.code.hs)) (hbl : m.code.bytes.length ≤ 1073741824) (hhl : m.code.hs.length ≤ 1073741824) (lb : nd.length ≤ 4294967296) :
    Cd.vc Tryz.prog C.rk_method_t2 (retQ Tryz.prog [(4, none), (5, none)] fun v h' => Ext h0 h' ∧ v = .tuple #[.int .i64 (mth1 c.pool ((c.methods.take i).map (ttM c.pool)) m na nd).1, .int .i64 (mth1 c.pool ((c.methods.take i).map (ttM c.pool)) m na nd).2])
      [(0, rkV g), (1, .int .i64 (i : Int)), (4, .int .i64 0), (5, .int .i64 0), (6, .pointer (some ⟨q, 0, none⟩)), (7, str na), (8, u8), (9, str nd), (10, u10), (11, u11), (13, undef), (14, undef), (16, undef), (18, undef), (19, undef), (20, undef), (24, undef), (52, u52), (54, u54), (56, u56), (61, u61), (68, u68), (75, undef), (76, undef), (77, undef), (78, undef), (102, undef), (111, undef), (112, undef), (115, undef), (122, undef), (123, undef), (124, undef), (125, undef), (137, undef)] h := by
  rw [C.rk_method_t2_go]
  have c8 : cellAt h ⟨g, 8, none⟩ = some (.slice (some ⟨b, o, none⟩) c.methods.length cm) := H.at rfl
  have hcap : c.methods.length ≤ cm := H.cls.mc
  have s0 : (0 : Int) ≤ (i : Int) := by omega
  have s1 : (i : Int) ≤ (cm : Int) := by omega
  simp (disch := omega) only [C.rk_method_gos, T.tv, seval, c8, Nat.sub_zero, slA_0]
  refine loop_intro [0, 6, 7, 9, 75, 76, 77] (fun m ρ hd => ∃ j : Nat, m = i - j ∧ j ≤ i ∧
    ρ = [(0, rkV g), (6, .pointer (some ⟨q, 0, none⟩)), (7, str na), (9, str nd), (75, .slice (some ⟨b, o, none⟩) i cm), (76, .int .i64 (i : Int)), (77, .int .i64 (j : Int))] ∧ Ext h hd ∧
    (na, nd) ∉ (c.methods.take j).map (ttM c.pool)) ?_ ?_
  · simp only [T.tv, seval]
    exact ⟨_, 0, rfl, Nat.zero_le _, rfl, Ext.refl _, by simp⟩
  rintro _ ρ hd ⟨j, rfl, hj, rfl, hx, hnm⟩
  by_cases hjt : j < i
  case neg =>
    have hjt' : ¬ (j : Int) < (i : Int) := by omega
    have : j = i := by omega
    subst this
    unfold mth1
    rw [if_neg hnm]
    simp only [C.rk_method_gos, T.tv, seval, hjt']
    exact rmethod_end (H.ext hx) F (X.trans hx) m nd (Fr_blk hx qc _root_.id) hmf (hH.ext (by decide) hx) hbl hhl lb
  have hjt' : (j : Int) < (i : Int) := by omega
  obtain ⟨_, _, _, vH2, heq, hrd, hs2, _⟩ := (H.ext hx).cls.m.at (i := j) (by omega)
  cases heq
  have hf2 := F.fit.methods _ (getD_mem (d := Mth.zero) (i := j) (l := c.methods) (by omega))
  have htk2 := take_getD (l := c.methods) (d := Mth.zero) (i := j) (by omega)
  have hmem : ttM c.pool (c.methods.getD j Mth.zero) ∈ (c.methods.take i).map (ttM c.pool) := by
    refine List.mem_map_of_mem ?_
    have hgd : (c.methods.take i).getD j Mth.zero = c.methods.getD j Mth.zero := by simp [List.getD, hjt]
    rw [← hgd]; exact getD_mem (by rw [List.length_take]; omega)
  generalize c.methods.getD j Mth.zero = f2 at *
  obtain ⟨_, ah2, ch2, rfl, _⟩ := id hs2
  have hld := ld_agg T.ag_43 hrd rfl
  simp only [MthV, CdeV, List.cons_append, List.nil_append] at hld
  simp (disch := omega) only [C.rk_method_gos, T.tv, seval, hld, hjt']
  refine eff_alloc_z T.zr_43 ?_
  simp only [T.tv, seval]
  refine eff_store_new_z T.zr_43 rfl rfl rfl (by simp [Value.cells, oneCell, str]) rfl ?_
  intro h7 x7 _ hrd7 b7
  have k1 : cellAt h7 ⟨hd.size, 1, none⟩ = some (.int .u16 (f2.name : Int)) := hrd7 1 _ rfl
  have k2 : cellAt h7 ⟨hd.size, 2, none⟩ = some (.int .u16 (f2.type : Int)) := hrd7 2 _ rfl
  clear hrd7 hld hrd b7
  generalize hd.size = q7 at *
  have hx7 := hx.trans x7
  have H7 := H.ext hx7
  have w2 : IntKind.i64.wrap ((j : Int) + 1) = ((j + 1 : Nat) : Int) := by rw [wrap_i64 (by omega) (by omega)]; omega
  simp only [C.rk_method_gos, T.tv, seval, k1]
  refine eff_callF rfl ((rktext_any H7 f2.name hf2.name).mono ?_)
  rintro v8 h8 ⟨rfl, rfl⟩
  simp only [C.rk_method_gos, T.tv, seval, k2]
  refine eff_callF rfl ((rktext_any H7 f2.type hf2.type).mono ?_)
  rintro v9 h9 ⟨rfl, rfl⟩
  have htt : ttM c.pool f2 = (strS c.pool f2.name, strS c.pool f2.type) := rfl
  rw [htt] at hmem
  generalize strS c.pool f2.name = n2 at *
  generalize strS c.pool f2.type = d2 at *
  have no : ¬ (n2 = na ∧ d2 = nd) → (na, nd) ∉ (c.methods.take (j + 1)).map (ttM c.pool) := by
    intro hne
    rw [htk2, List.map_append, List.mem_append]
    rintro (h | h)
    · exact hnm h
    · rw [List.map_singleton, List.mem_singleton, htt, Prod.mk.injEq] at h
      exact hne ⟨h.1.symm, h.2.symm⟩
  by_cases e1 : n2 = na
  · by_cases e2 : d2 = nd
    · rw [e1, e2] at hmem
      unfold mth1
      rw [if_pos hmem]
      simp only [C.rk_method_gos, T.tv, seval, eq_true e1, eq_true e2]
      exact X.trans hx7
    · simp only [C.rk_method_gos, T.tv, seval, eq_true e1, eq_false e2, w2]
      exact ⟨i - (j + 1), by omega, j + 1, rfl, by omega, rfl, hx7, no fun h => e2 h.2⟩
  · simp only [C.rk_method_gos, T.tv, seval, eq_false e1, w2]
    exact ⟨i - (j + 1), by omega, j + 1, rfl, by omega, rfl, hx7, no fun h => e1 h.1⟩
set_option maxHeartbeats 800000 in
theorem rmethod_flags {h0 : Heap} {q b o cm : Nat} {vH u8 u10 u11 u52 u54 u56 u61 : Value} (H : RB h g c vp vi vf (.slice (some ⟨b, o, none⟩) c.methods.length cm)) (F : CF c) (X : Ext h0 h) (i : Nat) (hi : i < c.methods.length) (hml : c.methods.length ≤ 1073741824) (m : Mth) (na nd : List UInt8) (qc : h[q]? = some (mthO m vH))
    (hmf : m.Fit) (hH : SlN h 4 vH m.code.hs.length (flatH m.code.hs)) (hbl : m.code.bytes.length ≤ 1073741824) (hhl : m.code.hs.length ≤ 1073741824) (lb : nd.length ≤ 4294967296) :
    Cd.vc Tryz.prog C.rk_method_t3 (retQ Tryz.prog [(4, none), (5, none)] fun v h' => Ext h0 h' ∧ v = .tuple #[.int .i64 (if mflK c.flags m.flags (memP na true) = false then (10, 0) else mth1 c.pool ((c.methods.take i).map (ttM c.pool)) m na nd : Int × Int).1, .int .i64 (if mflK c.flags m.flags (memP na true) = false then (10, 0) else mth1 c.pool ((c.methods.take i).map (ttM c.pool)) m na nd : Int × Int).2])
      [(0, rkV g), (1, .int .i64 (i : Int)), (4, .int .i64 0), (5, .int .i64 0), (6, .pointer (some ⟨q, 0, none⟩)), (7, str na), (8, u8), (9, str nd), (10, u10), (11, u11), (13, undef), (14, undef), (16, undef), (18, undef), (19, undef), (20, undef), (24, undef), (52, u52), (54, u54), (56, u56), (61, u61), (68, undef), (75, undef), (76, undef), (77, undef), (78, undef), (102, undef), (111, undef), (112, undef), (115, undef), (122, undef), (123, undef), (124, undef), (125, undef), (137, undef)] h := by
  rw [C.rk_method_t3_go]
  have k0 : cellAt h ⟨q, 0, none⟩ = some (.int .u16 (m.flags : Int)) := by rw [cellAt_of qc]; rfl
  have go := fun (u68 : Value) => rmethod_seen (h0 := h0) (u8 := u8) (u10 := u10) (u11 := u11) (u52 := u52) (u54 := u54) (u56 := u56) (u61 := u61) (u68 := u68) H F X i hi hml m na nd qc hmf hH hbl hhl lb
  generalize mth1 c.pool ((c.methods.take i).map (ttM c.pool)) m na nd = Z at *
  simp only [C.rk_method_gos, T.tv, seval, k0]
  refine eff_callF rfl ((rkflags_any H F m.flags hmf.flags na).mono ?_)
  rintro v1 h1 ⟨rfl, rfl⟩
  cases mflK c.flags m.flags (memP na true) with
  | false =>
    rw [if_pos rfl]
    simp only [C.rk_method_gos, T.tv, seval]
    exact X
  | true =>
    rw [if_neg (by decide)]
    simp only [T.tv, seval]
    exact go _
set_option maxHeartbeats 800000 in
theorem rkmethod_any (H : RB h g c vp vi vf vm) (F : CF c) (i : Nat) (hi : i < c.methods.length) (hml : c.methods.length ≤ 1073741824) (hbl : (c.methods.getD i Mth.zero).code.bytes.length ≤ 1073741824) (hhl : (c.methods.getD i Mth.zero).code.hs.length ≤ 1073741824) :
    HCalls Tryz.prog 16 #[rkV g, .int .i64 (i : Int)] h fun v h' => Ext h h' ∧ v = .tuple #[.int .i64 (mthK c.flags c.pool ((c.methods.take i).map (ttM c.pool)) (c.methods.getD i Mth.zero)).1, .int .i64 (mthK c.flags c.pool ((c.methods.take i).map (ttM c.pool)) (c.methods.getD i Mth.zero)).2] := by
  obtain ⟨rws, _, hm2, _⟩ := id H.cls.m
  obtain ⟨_, am, cm, hvm, _⟩ := id hm2
  clear hm2
  subst hvm
  refine C.rk_method_calls (args := [rkV g, .int .i64 (i : Int)]) rfl ?_
  have c8 : cellAt h ⟨g, 8, none⟩ = some (.slice am c.methods.length cm) := H.at rfl
  have hi' : (i : Int) < (c.methods.length : Int) := by omega
  obtain ⟨b, o, c', vH, heq, hrd, hsH, _⟩ := H.cls.m.at hi
  cases heq
  have hff := F.fit.methods _ (getD_mem (d := Mth.zero) hi)
  generalize hfd : c.methods.getD i Mth.zero = m at *
  obtain ⟨_, ah, ch, rfl, _⟩ := id hsH
  have hld := ld_agg T.ag_43 hrd rfl
  simp only [MthV, CdeV, List.cons_append, List.nil_append] at hld
  simp (disch := omega) only [C.rk_method_gos, T.tv, seval, c8, hld]
  refine eff_alloc_z T.zr_43 ?_
  simp only [T.tv, seval]
  refine eff_store_new_z T.zr_43 rfl rfl rfl (by simp [Value.cells, oneCell, str]) rfl ?_
  intro h2 x2 _ hrd2 b2
  change h2[h.size]? = some (mthO m (.slice ah m.code.hs.length ch)) at b2
  have H2 := H.ext x2
  have k1 : cellAt h2 ⟨h.size, 1, none⟩ = some (.int .u16 (m.name : Int)) := hrd2 1 _ rfl
  have k2 : cellAt h2 ⟨h.size, 2, none⟩ = some (.int .u16 (m.type : Int)) := hrd2 2 _ rfl
  clear hrd2 hld hrd
  generalize h.size = q at *
  have la := F.str m.name
  have lb := F.str m.type
  simp only [C.rk_method_gos, T.tv, seval, k1]
  refine eff_callF rfl ((rktext_any H2 m.name hff.name).mono ?_)
  rintro v3 h3 ⟨rfl, rfl⟩
  simp only [C.rk_method_gos, T.tv, seval, k2]
  refine eff_callF rfl ((rktext_any H2 m.type hff.type).mono ?_)
  rintro v4 h4 ⟨rfl, rfl⟩
  have h1' : ∀ seen na nd, (if (na, nd) ∈ seen then (11, 0) else if decide (m.flags &&& 1280 ≠ 0) = m.has then (13, 0) else if m.flags &&& 1280 ≠ 0 then (0, 0) else endK c.pool m nd) = mth1 c.pool seen m na nd := fun _ _ _ => rfl
  unfold mthK
  rw [h1']
  generalize strS c.pool m.name = na at *
  generalize strS c.pool m.type = nd at *
  generalize isS c.pool m.name 1 = i1 at *
  generalize isS c.pool m.type 1 = i2 at *
  cases i1 with
  | false =>
    rw [if_pos (.inl rfl)]
    simp only [C.rk_method_gos, T.tv, seval]
    exact x2
  | true =>
    cases i2 with
    | false =>
      rw [if_pos (.inr rfl)]
      simp only [C.rk_method_gos, T.tv, seval]
      exact x2
    | true =>
      rw [if_neg (by simp)]
      by_cases h3 : memP na true = 3
      · have hn := (memP_3 na).1 h3
        rw [if_neg (by omega)]
        by_cases hd : nd = [40, 41, 86]
        · rw [if_neg (by
            subst hd
            rw [h3]
            decide)]
          simp only [C.rk_method_gos, T.tv, seval, eq_true hn, eq_true hd]
          have go := fun (u8 u10 u11 u52 u54 u56 u61 : Value) => rmethod_flags (h0 := h) (u8 := u8) (u10 := u10) (u11 := u11) (u52 := u52) (u54 := u54) (u56 := u56) (u61 := u61) H2 F x2 i hi hml m na nd b2 hff (hsH.ext (by decide) x2) hbl hhl lb
          exact go _ _ _ _ _ _ _
        · rw [if_pos (.inr (.inr ⟨h3, hd⟩))]
          simp only [C.rk_method_gos, T.tv, seval, eq_true hn, eq_false hd]
          exact x2
      · have hn : ¬ na = [60, 99, 108, 105, 110, 105, 116, 62] := fun h => h3 ((memP_3 na).2 h)
        simp only [C.rk_method_gos, T.tv, seval, eq_false hn]
        refine eff_callF rfl ((rmemberK_any na nd la lb false true).mono ?_)
        rintro v5 h5 ⟨x5, rfl⟩
        rw [rmemK_mth na nd h3]
        have xx5 := x2.trans x5
        have go := fun (u8 u10 u11 u52 u54 u56 u61 : Value) => rmethod_flags (h0 := h) (u8 := u8) (u10 := u10) (u11 := u11) (u52 := u52) (u54 := u54) (u56 := u56) (u61 := u61) (H2.ext x5) F xx5 i hi hml m na nd (Fr_blk x5 b2 _root_.id) hff (hsH.ext (by decide) xx5) hbl hhl lb
        by_cases m0 : memP na true = 0
        · rw [if_pos m0, if_pos m0]
          simp (disch := omega) only [C.rk_method_gos, T.tv, ↓reduceIte, Nat.reduceEqDiff, reduceCtorEq, va]
          exact ⟨xx5, rfl⟩
        rw [if_neg m0, if_neg m0]
        by_cases h9 : (methP nd).isSome = false ∨ (memP na true = 2 ∧ mG nd ≠ [86])
        · rw [if_pos h9, if_pos (h9.elim .inl fun h => .inr (.inl h))]
          simp (disch := omega) only [C.rk_method_gos, T.tv, ↓reduceIte, Nat.reduceEqDiff, reduceCtorEq, va]
          exact ⟨xx5, rfl⟩
        · rw [if_neg h9, if_neg (fun h => h.elim (fun h => h9 (.inl h)) fun h => h.elim (fun h => h9 (.inr h)) fun h => h3 h.1)]
          simp only [C.rk_method_gos, T.tv, seval, va]
          exact go _ _ _ _ _ _ _
end
end Go.Proofs.YtflocjbhcjhenaaGreatDoor
namespace Go.Proofs.YtflocjbhcjhenaaGreatDoor
open Go.Vc
set_option maxRecDepth 100000
section
variable {h : Heap} {c : Cls} {vp vi vf vm : Value}
set_option maxHeartbeats 1600000 in
theorem rclassCheck_any (hC : ClsC h c vp vi vf vm) (F : CF c) (L : CL c) :
    HCalls Tryz.prog 7 #[.agg (ClsV c vp vi vf vm).toArray] h fun v h' => Ext h h' ∧ v = tup4 (chkK c) := by
  have hL1 := F.len
  obtain ⟨_, ap, cp, hvp, _⟩ := id hC.p
  obtain ⟨_, ai, ci, hvi, _⟩ := id hC.i
  obtain ⟨_, af, cf, hvf, _⟩ := id hC.f
  obtain ⟨rws, _, hm2, _⟩ := id hC.m
  obtain ⟨_, am, cm, hvm, _⟩ := id hm2
  clear hm2
  subst hvp hvi hvf hvm
  simp only [ClsV]
  refine C.ref3_Check_calls (args := [.agg #[.int .u16 (c.minor : Int), .int .u16 (c.major : Int), .int .u16 (c.flags : Int), .int .u16 (c.this : Int), .int .u16 (c.super : Int), .slice ap c.pool.length cp, .slice ai c.ifs.length ci, .slice af c.fields.length cf, .slice am c.methods.length cm]]) rfl ?_
  simp only [C.ref3_Check_gos, T.tv]
  refine eff_box ?_
  have E := Ext.push h (.cells #[.int .u16 (c.minor : Int), .int .u16 (c.major : Int), .int .u16 (c.flags : Int), .int .u16 (c.this : Int), .int .u16 (c.super : Int), .slice ap c.pool.length cp, .slice ai c.ifs.length ci, .slice af c.fields.length cf, .slice am c.methods.length cm] 28)
  have CB1 : CB (h.push (.cells #[.int .u16 (c.minor : Int), .int .u16 (c.major : Int), .int .u16 (c.flags : Int), .int .u16 (c.this : Int), .int .u16 (c.super : Int), .slice ap c.pool.length cp, .slice ai c.ifs.length ci, .slice af c.fields.length cf, .slice am c.methods.length cm] 28)) h.size c (.slice ap c.pool.length cp) (.slice ai c.ifs.length ci) (.slice af c.fields.length cf) (.slice am c.methods.length cm) := ⟨by simp [ClsV], hC.ext E⟩
  simp only [C.ref3_Check_gos, T.tv, seval]
  generalize h.push (.cells #[.int .u16 (c.minor : Int), .int .u16 (c.major : Int), .int .u16 (c.flags : Int), .int .u16 (c.this : Int), .int .u16 (c.super : Int), .slice ap c.pool.length cp, .slice ai c.ifs.length ci, .slice af c.fields.length cf, .slice am c.methods.length cm] 28) = h1 at *
  generalize h.size = q at *
  have hld := ld_agg T.ag_28 (Rd_block CB1.blk) rfl
  simp only [ClsV] at hld
  simp only [T.tv, hld, seval]
  refine eff_box ?_
  have E2 := Ext.push h1 (.cells #[.int .u16 (c.minor : Int), .int .u16 (c.major : Int), .int .u16 (c.flags : Int), .int .u16 (c.this : Int), .int .u16 (c.super : Int), .slice ap c.pool.length cp, .slice ai c.ifs.length ci, .slice af c.fields.length cf, .slice am c.methods.length cm] 57)
  have RB2 : RB (h1.push (.cells #[.int .u16 (c.minor : Int), .int .u16 (c.major : Int), .int .u16 (c.flags : Int), .int .u16 (c.this : Int), .int .u16 (c.super : Int), .slice ap c.pool.length cp, .slice ai c.ifs.length ci, .slice af c.fields.length cf, .slice am c.methods.length cm] 57)) h1.size c (.slice ap c.pool.length cp) (.slice ai c.ifs.length ci) (.slice af c.fields.length cf) (.slice am c.methods.length cm) := ⟨by simp [ClsV], (hC.ext E).ext E2⟩
  have CB2 := CB1.ext E2
  simp only [C.ref3_Check_gos, T.tv, seval]
  generalize h1.push (.cells #[.int .u16 (c.minor : Int), .int .u16 (c.major : Int), .int .u16 (c.flags : Int), .int .u16 (c.this : Int), .int .u16 (c.super : Int), .slice ap c.pool.length cp, .slice ai c.ifs.length ci, .slice af c.fields.length cf, .slice am c.methods.length cm] 57) = h2 at *
  generalize h1.size = g at *
  have xx2 := E.trans E2
  have p5 : cellAt h2 ⟨q, 5, none⟩ = some (.slice ap c.pool.length cp) := CB2.at rfl
  clear hld CB1
  simp only [T.tv, p5, seval]
  refine loop_intro [1, 6, 20, 21, 22] (fun m ρ hc => ∃ i : Nat, m = c.pool.length - i ∧ i ≤ c.pool.length ∧
    ρ = [(1, .pointer (some ⟨q, 0, none⟩)), (6, rkV g), (20, .slice ap c.pool.length cp), (21, .int .i64 (c.pool.length : Int)), (22, .int .i64 (i : Int))] ∧ Ext h2 hc ∧
    poolK c.pool 0 c.pool = poolK c.pool i (c.pool.drop i) ∧ ∀ j, j < i → cstK c.pool (c.pool.getD j Cst.zero) = 0) ?_ ?_
  · simp only [T.tv, seval]
    exact ⟨_, 0, rfl, Nat.zero_le _, rfl, Ext.refl _, by simp, fun j hj => absurd hj (Nat.not_lt_zero _)⟩
  rintro m ρ hc ⟨i, rfl, hi, rfl, hx, hpk, hok⟩
  by_cases hlt : i < c.pool.length
  · have hlt' : (i : Int) < (c.pool.length : Int) := by omega
    have w1 : IntKind.i64.wrap ((i : Int) + 1) = ((i + 1 : Nat) : Int) := by rw [wrap_i64 (by omega) (by omega)]; omega
    obtain ⟨b, o, c', heq, hrd, _⟩ := (CB2.ext hx).cls.p.at hlt
    cases heq
    rw [flatS_at hlt] at hrd
    rw [drop_getD (d := Cst.zero) hlt, poolK] at hpk
    have hkf := F.fit.pool _ (getD_mem (d := Cst.zero) hlt)
    have hstep : cstK c.pool (c.pool.getD i Cst.zero) = 0 → ∀ j, j < i + 1 → cstK c.pool (c.pool.getD j Cst.zero) = 0 := by
      intro h0 j hj
      rcases Nat.lt_or_ge j i with hji | hji
      · exact hok j hji
      · rw [show j = i by omega]; exact h0
    generalize c.pool.getD i Cst.zero = k at *
    have hld := ld_agg T.ag_38 hrd rfl
    simp only [Cst.cells] at hld
    simp (disch := omega) only [C.ref3_Check_gos, T.tv, seval, hlt', hld]
    refine eff_alloc_z T.zr_38 ?_
    simp only [T.tv, seval]
    refine eff_store_new_z T.zr_38 rfl rfl rfl (by simp [Value.cells, oneCell, str]) rfl ?_
    intro h3 x3 _ _ b3
    change h3[hc.size]? = some (cstO k) at b3
    have hx3 := hx.trans x3
    have cl := cst_ld b3
    generalize hc.size = q3 at *
    simp only [C.ref3_Check_gos, T.tv, seval, cl]
    refine eff_callF rfl ((rkconstant_any (RB2.ext hx3) F k hkf).mono ?_)
    rintro v4 h4 ⟨x4, rfl⟩
    have xx4 := (xx2.trans hx3).trans x4
    by_cases h0 : cstK c.pool k = 0
    · rw [if_neg (by simp [h0])] at hpk
      simp (disch := omega) only [C.ref3_Check_gos, T.tv, seval, w1, va]
      exact ⟨c.pool.length - (i + 1), by omega, i + 1, rfl, by omega, rfl, hx3.trans x4, hpk, hstep h0⟩
    · rw [if_pos h0] at hpk
      have hz : chkK c = ((cstK c.pool k : Int), 0, (i : Int), 0) := by unfold chkK; rw [hpk]
      rw [hz]
      simp (disch := omega) only [C.ref3_Check_gos, T.tv, seval, va]
      exact ⟨xx4, rfl⟩
  have hlt' : ¬ (i : Int) < (c.pool.length : Int) := by omega
  rw [List.drop_of_length_le (by omega)] at hpk
  have hp : ∀ x ∈ c.pool, cstK c.pool x = 0 := by
    intro x hxm
    obtain ⟨j, hj, rfl⟩ := List.getElem_of_mem hxm
    have := hok j (by omega)
    simpa [hj] using this
  have RBc := RB2.ext hx
  have xxc := xx2.trans hx
  simp only [C.ref3_Check_gos, T.tv, seval, hlt']
  refine eff_callF rfl ((rkitself_any RBc F hp L.i).mono ?_)
  rintro v5 h5 ⟨x5, rfl⟩
  have xx5 := xxc.trans x5
  by_cases hit : itsK c = 0
  case neg =>
    have hz : chkK c = ((itsK c : Int), 1, 0, 0) := by unfold chkK; rw [hpk]; simp only [poolK]; rw [if_pos hit]
    rw [hz]
    simp (disch := omega) only [C.ref3_Check_gos, T.tv, seval, va]
    exact ⟨xx5, rfl⟩
  have RB5 := RBc.ext x5
  have hz1 : ∀ r, fldsK c.flags c.pool 0 [] c.fields = some r → chkK c = ((r.1 : Int), 2, (r.2 : Int), 0) := by
    intro r hr
    unfold chkK; rw [hpk]; simp only [poolK]; rw [if_neg (by simp [hit]), hr]
  have hz2 : fldsK c.flags c.pool 0 [] c.fields = none → ∀ r, mthsK c.flags c.pool 0 [] c.methods = some r → chkK c = (r.1.1, 3, (r.2 : Int), r.1.2) := by
    intro hf r hr
    unfold chkK; rw [hpk]; simp only [poolK]; rw [if_neg (by simp [hit]), hf]; simp only []; rw [hr]
  have hz3 : fldsK c.flags c.pool 0 [] c.fields = none → mthsK c.flags c.pool 0 [] c.methods = none → chkK c = (0, 0, 0, 0) := by
    intro hf hr
    unfold chkK; rw [hpk]; simp only [poolK]; rw [if_neg (by simp [hit]), hf]; simp only []; rw [hr]
  clear hpk hok hp
  have CB5 := (CB2.ext hx).ext x5
  have p7 : cellAt h5 ⟨q, 7, none⟩ = some (.slice af c.fields.length cf) := CB5.at rfl
  simp (disch := omega) only [C.ref3_Check_gos, T.tv, seval, p7, va]
  refine loop_intro [1, 6, 42, 43] (fun m ρ hd => ∃ i : Nat, m = c.fields.length - i ∧ i ≤ c.fields.length ∧
    ρ = [(1, .pointer (some ⟨q, 0, none⟩)), (6, rkV g), (42, .int .i64 (c.fields.length : Int)), (43, .int .i64 (i : Int))] ∧ Ext h5 hd ∧
    fldsK c.flags c.pool 0 [] c.fields = fldsK c.flags c.pool i ((c.fields.take i).map (ttF c.pool)) (c.fields.drop i)) ?_ ?_
  · simp only [T.tv, seval]
    exact ⟨_, 0, rfl, Nat.zero_le _, rfl, Ext.refl _, by simp⟩
  rintro m ρ hd ⟨j, rfl, hj, rfl, hxd, hfk⟩
  by_cases hlt2 : j < c.fields.length
  · have hlt2' : (j : Int) < (c.fields.length : Int) := by omega
    have w1 : IntKind.i64.wrap ((j : Int) + 1) = ((j + 1 : Nat) : Int) := by have := L.f; rw [wrap_i64 (by omega) (by omega)]; omega
    rw [drop_getD (d := Fld.zero) hlt2, fldsK] at hfk
    have htk : (c.fields.take (j + 1)).map (ttF c.pool) = (c.fields.take j).map (ttF c.pool) ++ [(strS c.pool (c.fields.getD j Fld.zero).name, strS c.pool (c.fields.getD j Fld.zero).type)] := by
      rw [take_getD (d := Fld.zero) hlt2]; simp [ttF]
    simp only [C.ref3_Check_gos, T.tv, seval, hlt2']
    refine eff_callF rfl ((rkfield_any (RB5.ext hxd) F j hlt2 L.f).mono ?_)
    rintro v8 h8 ⟨x8, rfl⟩
    generalize c.fields.getD j Fld.zero = f at *
    generalize (c.fields.take j).map (ttF c.pool) = seen at *
    by_cases h0 : fldK c.flags c.pool seen f = 0
    · rw [if_neg (by simp [h0])] at hfk
      rw [← htk] at hfk
      simp (disch := omega) only [C.ref3_Check_gos, T.tv, seval, w1, va]
      exact ⟨c.fields.length - (j + 1), by omega, j + 1, rfl, by omega, rfl, hxd.trans x8, hfk⟩
    · rw [if_pos h0] at hfk
      rw [hz1 _ hfk]
      simp (disch := omega) only [C.ref3_Check_gos, T.tv, seval, va]
      exact ⟨(xx5.trans hxd).trans x8, rfl⟩
  have hlt2' : ¬ (j : Int) < (c.fields.length : Int) := by omega
  rw [List.drop_of_length_le (by omega)] at hfk
  have hfn : fldsK c.flags c.pool 0 [] c.fields = none := by rw [hfk]; rfl
  have hz2 := hz2 hfn
  have hz3 := hz3 hfn
  clear hz1 hfk
  have RBd := RB5.ext hxd
  have xxd := xx5.trans hxd
  have p8 : cellAt hd ⟨q, 8, none⟩ = some (.slice am c.methods.length cm) := (CB5.ext hxd).at rfl
  simp only [C.ref3_Check_gos, T.tv, seval, hlt2', p8]
  refine loop_intro [6, 56, 57] (fun m ρ he => ∃ i : Nat, m = c.methods.length - i ∧ i ≤ c.methods.length ∧
    ρ = [(6, rkV g), (56, .int .i64 (c.methods.length : Int)), (57, .int .i64 (i : Int))] ∧ Ext hd he ∧
    mthsK c.flags c.pool 0 [] c.methods = mthsK c.flags c.pool i ((c.methods.take i).map (ttM c.pool)) (c.methods.drop i)) ?_ ?_
  · simp only [T.tv, seval]
    exact ⟨_, 0, rfl, Nat.zero_le _, rfl, Ext.refl _, by simp⟩
  rintro m ρ he ⟨k, rfl, hk, rfl, hxe, hmk⟩
  by_cases hlt3 : k < c.methods.length
  · have hlt3' : (k : Int) < (c.methods.length : Int) := by omega
    have w1 : IntKind.i64.wrap ((k : Int) + 1) = ((k + 1 : Nat) : Int) := by have := L.m; rw [wrap_i64 (by omega) (by omega)]; omega
    rw [drop_getD (d := Mth.zero) hlt3, mthsK] at hmk
    have hkb := L.b _ (getD_mem (d := Mth.zero) hlt3)
    have hkh := L.h _ (getD_mem (d := Mth.zero) hlt3)
    have htk : (c.methods.take (k + 1)).map (ttM c.pool) = (c.methods.take k).map (ttM c.pool) ++ [(strS c.pool (c.methods.getD k Mth.zero).name, strS c.pool (c.methods.getD k Mth.zero).type)] := by
      rw [take_getD (d := Mth.zero) hlt3]; simp [ttM]
    simp only [C.ref3_Check_gos, T.tv, seval, hlt3']
    refine eff_callF rfl ((rkmethod_any (RBd.ext hxe) F k hlt3 L.m hkb hkh).mono ?_)
    rintro v8 h8 ⟨x8, rfl⟩
    generalize c.methods.getD k Mth.zero = f at *
    generalize (c.methods.take k).map (ttM c.pool) = seen at *
    generalize mthK c.flags c.pool seen f = ee at *
    obtain ⟨e1, e2⟩ := ee
    by_cases h0 : e1 = 0
    · rw [if_neg (by simp [h0])] at hmk
      rw [← htk] at hmk
      simp (disch := omega) only [C.ref3_Check_gos, T.tv, seval, w1, va]
      exact ⟨c.methods.length - (k + 1), by omega, k + 1, rfl, by omega, rfl, hxe.trans x8, hmk⟩
    · rw [if_pos h0] at hmk
      rw [hz2 _ hmk]
      simp (disch := omega) only [C.ref3_Check_gos, T.tv, seval, va]
      exact ⟨(xxd.trans hxe).trans x8, rfl⟩
  have hlt3' : ¬ (k : Int) < (c.methods.length : Int) := by omega
  rw [List.drop_of_length_le (by omega)] at hmk
  rw [hz3 (by rw [hmk]; rfl)]
  simp only [C.ref3_Check_gos, T.tv, seval, hlt3']
  exact ⟨xxd.trans hxe, rfl⟩
end
end Go.Proofs.YtflocjbhcjhenaaGreatDoor
namespace Go.Proofs.YtflocjbhcjhenaaGreatDoor
open Go.Vc
set_option maxRecDepth 100000
theorem sizeW_lim {c : Cls} (hF : c.Fit) (hz : sizeW c ≤ 32768) : CF c ∧ CL c := by
  unfold sizeW at hz
  have hpt : ∀ x ∈ c.pool, x.text.length ≤ 32768 := fun x hx => by have := textW_each x hx; omega
  have hmh : ∀ m ∈ c.methods, m.code.hs.length ≤ 32768 ∧ m.code.bytes.length ≤ 32768 := fun x hx => by have := sumW_each x hx; simp only [mW] at this; omega
  exact ⟨⟨hF, by omega, fun x hx => by have := hpt x hx; omega⟩, ⟨by omega, by omega, by omega, fun m hm => by have := hmh m hm; omega, fun m hm => by have := hmh m hm; omega⟩⟩
set_option maxHeartbeats 1600000 in
theorem classChecks_any (c : Cls) (vp vi vf vm : Value) (h : Heap) (hC : ClsC h c vp vi vf vm) (hF : c.Fit) (hz : sizeW c ≤ 1099511627776) :
    HCalls Tryz.prog 3 #[.agg (ClsV c vp vi vf vm).toArray] h fun r h' => Ext h h' ∧ r = .bool true := by
  refine C.law3_ClassChecks_calls (args := [.agg (ClsV c vp vi vf vm).toArray]) rfl ?_
  have hszA := fun h' (x : Ext h h') => size_any c vp vi vf vm h' (hC.ext x) hz
  have hanA := fun h' (x : Ext h h') => another_any c vp vi vf vm h' (hC.ext x)
  have hclA := fun h' (x : Ext h h') => classCheck_any (c := c) (vp := vp) (vi := vi) (vf := vf) (vm := vm) (h := h') (hC.ext x)
  have hsmA := fun h' up ui uf um (x : Ext h h') (hD : ClsC h' c up ui uf um) => sameClass_any c vp vi vf vm up ui uf um h' (hC.ext x) hD
  obtain ⟨_, ap, cp, rfl, _⟩ := id hC.p
  obtain ⟨_, ai, ci, rfl, _⟩ := id hC.i
  obtain ⟨_, af, cf, rfl, _⟩ := id hC.f
  obtain ⟨am, cm, rfl⟩ : ∃ am cm, vm = .slice am c.methods.length cm := by
    obtain ⟨rows, _, ⟨_, a, cc, e, _⟩, _⟩ := hC.m
    exact ⟨a, cc, e⟩
  simp only [ClsV] at *
  simp only [C.law3_ClassChecks_gos, T.tv]
  refine eff_box ?_
  have e1 : Ext h (h.push (.cells ([.int .u16 (c.minor : Int), .int .u16 (c.major : Int), .int .u16 (c.flags : Int), .int .u16 (c.this : Int), .int .u16 (c.super : Int), .slice ap c.pool.length cp, .slice ai c.ifs.length ci, .slice af c.fields.length cf, .slice am c.methods.length cm] : List Value).toArray 28)) := Ext.push _ _
  have g1 : (h.push (.cells ([.int .u16 (c.minor : Int), .int .u16 (c.major : Int), .int .u16 (c.flags : Int), .int .u16 (c.this : Int), .int .u16 (c.super : Int), .slice ap c.pool.length cp, .slice ai c.ifs.length ci, .slice af c.fields.length cf, .slice am c.methods.length cm] : List Value).toArray 28))[h.size]? = some (.cells ([.int .u16 (c.minor : Int), .int .u16 (c.major : Int), .int .u16 (c.flags : Int), .int .u16 (c.this : Int), .int .u16 (c.super : Int), .slice ap c.pool.length cp, .slice ai c.ifs.length ci, .slice af c.fields.length cf, .slice am c.methods.length cm] : List Value).toArray 28 (0, 0)) := by simp
  simp only [C.law3_ClassChecks_gos, T.tv, seval]
  generalize h.push (.cells ([.int .u16 (c.minor : Int), .int .u16 (c.major : Int), .int .u16 (c.flags : Int), .int .u16 (c.this : Int), .int .u16 (c.super : Int), .slice ap c.pool.length cp, .slice ai c.ifs.length ci, .slice af c.fields.length cf, .slice am c.methods.length cm] : List Value).toArray 28) = h1 at *
  obtain ⟨cb, hcb⟩ : ∃ x, x = h.size := ⟨_, rfl⟩
  rw [← hcb] at g1 ⊢
  have hld := ld_agg T.ag_28 (Rd_block (vs := [.int .u16 (c.minor : Int), .int .u16 (c.major : Int), .int .u16 (c.flags : Int), .int .u16 (c.this : Int), .int .u16 (c.super : Int), .slice ap c.pool.length cp, .slice ai c.ifs.length ci, .slice af c.fields.length cf, .slice am c.methods.length cm]) g1) rfl
  simp only [T.tv, hld]
  refine eff_callF rfl ((hszA h1 e1).mono ?_)
  rintro _ h2 ⟨x2, rfl⟩
  have g2 := Fr_blk x2 g1 id
  have X2 := e1.trans x2
  clear hld g1 e1 x2
  by_cases hbig : 32768 < sizeW c
  · have hbig' : (32768 : Int) < (sizeW c : Int) := by omega
    simp only [C.law3_ClassChecks_gos, T.tv, seval, eq_true hbig']
    first | exact X2 | exact ⟨X2, rfl⟩
  have hbig' : ¬ (32768 : Int) < (sizeW c : Int) := by omega
  have hz2 : sizeW c ≤ 32768 := by omega
  obtain ⟨F, L⟩ := sizeW_lim hF hz2
  have L1 := F.len
  have L2 := L.i
  have L3 := L.f
  have L4 := L.m
  have hld := ld_agg T.ag_28 (Rd_block (vs := [.int .u16 (c.minor : Int), .int .u16 (c.major : Int), .int .u16 (c.flags : Int), .int .u16 (c.this : Int), .int .u16 (c.super : Int), .slice ap c.pool.length cp, .slice ai c.ifs.length ci, .slice af c.fields.length cf, .slice am c.methods.length cm]) g2) rfl
  unfold sizeW at hz2
  simp only [C.law3_ClassChecks_gos, T.tv, seval, eq_false hbig', hld]
  refine eff_callF rfl ((hanA h2 X2 (by omega) (by omega) (by omega) (by omega) (by omega)).mono ?_)
  rintro _ h3 ⟨x3, up, ui, uf, um, rfl, hD⟩
  have g3 := Fr_blk x3 g2 id
  have X3 := X2.trans x3
  clear hld g2 X2 x3
  obtain ⟨_, bp, dp, rfl, _⟩ := id hD.p
  obtain ⟨_, bi, di, rfl, _⟩ := id hD.i
  obtain ⟨_, bf, df, rfl, _⟩ := id hD.f
  obtain ⟨bm, dm, rfl⟩ : ∃ am cm, um = .slice am c.methods.length cm := by
    obtain ⟨rows, _, ⟨_, a, cc, e, _⟩, _⟩ := hD.m
    exact ⟨a, cc, e⟩
  simp only [T.tv]
  refine eff_alloc_z T.zr_28 ?_
  simp only [T.tv, seval]
  refine eff_store_new_z T.zr_28 rfl rfl rfl (by simp [Value.cells, oneCell]) rfl ?_
  intro h4 x4 _ _ b4
  have g4 := Fr_blk x4 g3 id
  have X4 := X3.trans x4
  have D4 := hD.ext x4
  have hld := ld_agg T.ag_28 (Rd_block (vs := [.int .u16 (c.minor : Int), .int .u16 (c.major : Int), .int .u16 (c.flags : Int), .int .u16 (c.this : Int), .int .u16 (c.super : Int), .slice ap c.pool.length cp, .slice ai c.ifs.length ci, .slice af c.fields.length cf, .slice am c.methods.length cm]) g4) rfl
  generalize h3.size = cb2 at *
  simp only [C.law3_ClassChecks_gos, T.tv, seval, hld]
  refine eff_callF rfl ((hclA h4 X4 F L).mono ?_)
  rintro _ h5 ⟨x5, rfl⟩
  have g5 := Fr_blk x5 g4 id
  have b5 := Fr_blk x5 b4 id
  have X5 := X4.trans x5
  have D5 := D4.ext x5
  unfold tup4
  have hrf := rclassCheck_any (h := h5) D5 F L
  unfold tup4 at hrf
  generalize chkK c = z at *
  obtain ⟨z1, z2, z3, z4⟩ := z
  have hld := ld_agg T.ag_28 (Rd_block (vs := [.int .u16 (c.minor : Int), .int .u16 (c.major : Int), .int .u16 (c.flags : Int), .int .u16 (c.this : Int), .int .u16 (c.super : Int), .slice bp c.pool.length dp, .slice bi c.ifs.length di, .slice bf c.fields.length df, .slice bm c.methods.length dm]) b5) rfl
  dsimp only at hrf ⊢
  simp only [C.law3_ClassChecks_gos, T.tv, seval, hld]
  refine eff_callF rfl (hrf.mono ?_)
  rintro _ h6 ⟨x6, rfl⟩
  have g6 := Fr_blk x6 g5 id
  have b6 := Fr_blk x6 b5 id
  have X6 := X5.trans x6
  have D6 := D5.ext x6
  have hl1 := ld_agg T.ag_28 (Rd_block (vs := [.int .u16 (c.minor : Int), .int .u16 (c.major : Int), .int .u16 (c.flags : Int), .int .u16 (c.this : Int), .int .u16 (c.super : Int), .slice ap c.pool.length cp, .slice ai c.ifs.length ci, .slice af c.fields.length cf, .slice am c.methods.length cm]) g6) rfl
  have hl2 := ld_agg T.ag_28 (Rd_block (vs := [.int .u16 (c.minor : Int), .int .u16 (c.major : Int), .int .u16 (c.flags : Int), .int .u16 (c.this : Int), .int .u16 (c.super : Int), .slice bp c.pool.length dp, .slice bi c.ifs.length di, .slice bf c.fields.length df, .slice bm c.methods.length dm]) b6) rfl
  simp only [C.law3_ClassChecks_gos, T.tv, seval, hl1, hl2]
  refine eff_callF rfl ((hsmA h6 _ _ _ _ X6 D6 (by omega) (by omega) (by omega) (by omega) (fun m hm => by have := L.h m hm; omega)).mono ?_)
  rintro _ h7 ⟨x7, rfl⟩
  simp only [T.tv, seval]
  exact X6.trans x7
end Go.Proofs.YtflocjbhcjhenaaGreatDoor

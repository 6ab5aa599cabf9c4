/- Lists of their own: the law's test of it. -/
import Derived.Test.YtohkbpnblkkdgaaMG
import Derived.Test.YtohkbpnblkkdgaaCbb
namespace Go.Proofs.Ytohkbpnblkkdgaa
open Go.Vc
set_option maxRecDepth 100000
set_option linter.unusedSimpArgs false
set_option linter.unusedVariables false

theorem getD_set {α : Type} {l : List α} {k j : Nat} {x d : α} (hk : k < l.length) : (l.set k x).getD j d = if j = k then x else l.getD j d := by
  by_cases h : j = k
  · subst h; simp [hk]
  · simp [List.getElem?_set, h, Ne.symm h]
theorem flatV_set : ∀ (l : List VT) (i : Nat) (x : VT), i < l.length → flatV (l.set i x) = (flatV l).take (i * 3) ++ x.cells ++ (flatV l).drop (i * 3 + 3)
  | [], i, x, h => by simp at h
  | v :: r, 0, x, _ => by
    simp only [List.set_cons_zero, Nat.zero_mul, List.take_zero, List.nil_append, Nat.zero_add]
    show x.cells ++ flatV r = x.cells ++ (v.cells ++ flatV r).drop 3
    rw [List.drop_left' (by rfl)]
  | v :: r, i + 1, x, h => by
    have ih := flatV_set r i x (by simpa using h)
    simp only [List.set_cons_succ]
    show v.cells ++ flatV (r.set i x) = (v.cells ++ flatV r).take ((i + 1) * 3) ++ x.cells ++ (v.cells ++ flatV r).drop ((i + 1) * 3 + 3)
    have hc : v.cells.length = 3 := rfl
    have e1 : (i + 1) * 3 = 3 + i * 3 := by omega
    have t1 : (v.cells ++ flatV r).take (3 + i * 3) = v.cells ++ (flatV r).take (i * 3) := by
      rw [List.take_append, hc, Nat.add_sub_cancel_left, List.take_of_length_le (l := v.cells) (by omega)]
    have t2 : (v.cells ++ flatV r).drop (3 + i * 3 + 3) = (flatV r).drop (i * 3 + 3) := by
      rw [Nat.add_assoc, List.drop_append, hc, Nat.add_sub_cancel_left, List.drop_eq_nil_of_le (by omega), List.nil_append]
    rw [ih, e1, t1, t2]
    simp
section
variable {h h' : Heap} {base : Nat} {v : Value} {rows : List (List Value)} {xs : List Frm}
theorem FrsW.upd (H : FrsW h base v rows xs) {k : Nat} {x' : Frm} {S : Nat → Prop} (hk : k < xs.length) (f : Fr S h h') (hS : ∀ b, S b → rowB (rows.getD k []) b) (hx : FrP h' base x' (rows.getD k [])) : FrsW h' base v rows (xs.set k x') := by
  obtain ⟨h1, h2, h3, h4⟩ := H
  refine ⟨by simp [h1], ?_, ?_, ?_⟩
  · rw [List.length_set]
    refine h2.fr f fun b hb hs => ?_
    obtain ⟨cs, fz, hc⟩ := Own.cells h2 hb
    exact absurd ((h3 k hk).vt (hS b hs) hc) (by decide)
  · intro j hj
    rw [List.length_set] at hj
    rw [getD_set hk]
    by_cases hjk : j = k
    · subst hjk; rw [if_pos rfl]; exact hx
    · rw [if_neg hjk]
      refine (h3 j hj).fr f fun b hb hs => ?_
      rcases Nat.lt_or_gt_of_ne hjk with hlt | hgt
      · exact Nat.lt_irrefl _ (h4 j k hlt hk b b hb (hS b hs))
      · exact Nat.lt_irrefl _ (h4 k j hgt hj b b (hS b hs) hb)
  · intro j k' hjk hk' b c hb hc
    rw [List.length_set] at hk'
    exact h4 j k' hjk hk' b c hb hc
theorem FrsW.keep (H : FrsW h base v rows xs) {k : Nat} {S : Nat → Prop} (hk : k < xs.length) (f : Fr S h h') (hS : ∀ b, S b → rowB (rows.getD k []) b) (hx : FrP h' base (xs.getD k fr0) (rows.getD k [])) : FrsW h' base v rows xs := by
  have := H.upd hk f hS hx
  have e : xs.set k (xs.getD k fr0) = xs := by simp [hk]
  rwa [e] at this
theorem FrsW.at (H : FrsW h base v rows xs) {i : Nat} (hi : i < xs.length) : ∃ b o c vL vS, v = .slice (some ⟨b, o, none⟩) xs.length c ∧ Rd h b (o + i * 3) [.int .i64 (xs.getD i fr0).at', vL, vS] ∧ rows.getD i [] = [.int .i64 (xs.getD i fr0).at', vL, vS] ∧
    FrmO h base (xs.getD i fr0) vL vS := by
  obtain ⟨h1, h2, h3, _⟩ := H
  obtain ⟨b, o, c, e1, e2, e3⟩ := h2.slN.at hi
  have hall : ∀ r ∈ rows, r.length = 3 := by
    intro r hr
    obtain ⟨j, hj, rfl⟩ := List.mem_iff_getElem.1 hr
    have := (h3 j (by omega)).frc.len
    simpa [hj] using this
  rw [flatten_at rows i hall (by omega)] at e2
  obtain ⟨vL, vS, q1, q2⟩ := h3 i hi
  rw [q1] at e2
  exact ⟨b, o, c, vL, vS, e1, e2, q1, q2⟩
end
def Mk (k : Nat) (x : Frm) : Prop := (∀ z ∈ x.L, z = ⟨78, [], (k : Int)⟩) ∧ (∀ z ∈ x.S, z = ⟨79, [], (k : Int)⟩)
def LB (xs : List Frm) : Prop := ∀ x ∈ xs, x.L.length ≤ 1073741824 ∧ x.S.length ≤ 1073741824
theorem LB.set {xs : List Frm} (H : LB xs) {i : Nat} {x' : Frm} (h : x'.L.length ≤ 1073741824 ∧ x'.S.length ≤ 1073741824) : LB (xs.set i x') := by
  intro x hx
  rcases List.mem_or_eq_of_mem_set hx with hx | rfl
  · exact H x hx
  · exact h
theorem set_all {l : List VT} {p : Nat} {z : VT} (hp : p < l.length) (h : ∀ q, q < p → l.getD q VT.zero = z) : ∀ q, q < p + 1 → (l.set p z).getD q VT.zero = z := by
  intro q hq
  rw [getD_set hp]
  by_cases e : q = p
  · rw [if_pos e]
  · rw [if_neg e]; exact h q (by omega)
theorem all_mem {l : List VT} {z : VT} (h : ∀ q, q < l.length → l.getD q VT.zero = z) : ∀ y ∈ l, y = z := by
  intro y hy
  obtain ⟨q, hq, rfl⟩ := List.mem_iff_getElem.1 hy
  have := h q hq
  simpa [hq] using this
section
variable {h : Heap} {base : Nat} {v : Value} {rows : List (List Value)}
set_option maxHeartbeats 8000000 in
theorem apart_any (xs0 : List Frm) (hlen : xs0.length ≤ 1073741824) (H : FrsW h base v rows xs0) (hL : LB xs0) (hbase : base ≤ h.size) :
    HCalls Try.prog 12 #[v] h fun r h' => Fr (fun b => base ≤ b) h h' ∧ r = .bool true := by
  refine C.law3_apart_calls (args := [v]) rfl ?_
  obtain ⟨n, hn⟩ : ∃ n, n = xs0.length := ⟨_, rfl⟩
  obtain ⟨va, vc, hv, _⟩ := H.2.1.slN.2
  rw [← hn] at hv hlen
  subst hv
  simp (disch := first | omega | assumption) only [C.law3_apart_gos, vs, Go.Vc.vk, T.ts, ↓reduceIte, Nat.reduceEqDiff, reduceCtorEq, Nat.reduceLeDiff, Nat.reducePow, Int.reducePow, Int.reduceToNat, Nat.reduceAdd]
  refine loop_intro [0, 14, 15] (fun m ρ hc => ∃ (i : Nat) (xs : List Frm), m = n - i ∧ i ≤ n ∧ xs.length = n ∧ ρ = [(0, .slice va n vc), (14, .int .i64 n), (15, .int .i64 i)] ∧ Fr (fun b => base ≤ b) h hc ∧ FrsW hc base (.slice va n vc) rows xs ∧ LB xs ∧ ∀ j, j < i → Mk j (xs.getD j fr0)) ?_ ?_
  · simp (disch := first | omega | assumption) only [C.law3_apart_gos, vs, Go.Vc.vk, T.ts, ↓reduceIte, Nat.reduceEqDiff, reduceCtorEq, Nat.reduceLeDiff, Nat.reducePow, Int.reducePow, Int.reduceToNat, Nat.reduceAdd]
    exact ⟨_, 0, xs0, rfl, Nat.zero_le _, hn.symm, rfl, Fr.refl _ _, H, hL, fun j hj => by omega⟩
  clear H hL
  rintro m ρ hc ⟨i, xs, rfl, hi, hxl, rfl, F, W, hL, hM⟩
  rcases Nat.lt_or_ge i n with hlt | hge
  case inr =>
    have hlt' : ¬ (i : Int) < n := by omega
    have hin : i = n := by omega
    have hMn : ∀ j, j < n → Mk j (xs.getD j fr0) := fun j hj => hM j (by omega)
    clear hM hge hin hi
    simp (disch := first | omega | assumption) only [C.law3_apart_gos, vs, Go.Vc.vk, T.ts, ↓reduceIte, Nat.reduceEqDiff, reduceCtorEq, Nat.reduceLeDiff, Nat.reducePow, Int.reducePow, Int.reduceToNat, Nat.reduceAdd, hlt']
    refine loop_intro [0, 58, 59] (fun m ρ hc => ∃ (i : Nat), m = n - i ∧ i ≤ n ∧ ρ = [(0, .slice va n vc), (58, .int .i64 n), (59, .int .i64 i)] ∧ Fr (fun b => base ≤ b) h hc ∧ FrsW hc base (.slice va n vc) rows xs) ?_ ?_
    · simp (disch := first | omega | assumption) only [C.law3_apart_gos, vs, Go.Vc.vk, T.ts, ↓reduceIte, Nat.reduceEqDiff, reduceCtorEq, Nat.reduceLeDiff, Nat.reducePow, Int.reducePow, Int.reduceToNat, Nat.reduceAdd]
      exact ⟨_, 0, rfl, Nat.zero_le _, rfl, F, W⟩
    clear F W hlt'
    rintro m ρ hc ⟨i, rfl, hi, rfl, F, W⟩
    rcases Nat.lt_or_ge i n with hlt | hge
    case inl =>
      have hlt' : (i : Int) < n := by omega
      have hix : i < xs.length := by omega
      have hLi := hL _ (getD_mem (d := fr0) hix)
      obtain ⟨b, o, c, vL, vS, heq, hrd, hrow, O⟩ := W.at hix
      rw [hxl] at heq
      cases heq
      generalize hx : xs.getD i fr0 = x at *
      have c6 : cellAt hc ⟨b, o + i * 3 + 1, none⟩ = some vL := hrd 1 _ rfl
      simp (disch := first | omega | assumption) only [C.law3_apart_gos, vs, Go.Vc.vk, T.ts, ↓reduceIte, Nat.reduceEqDiff, reduceCtorEq, Nat.reduceLeDiff, Nat.reducePow, Int.reducePow, Int.reduceToNat, Nat.reduceAdd, hlt', c6]
      refine eff_lits T.slT_23 rfl rfl (by decide) ?_
      simp (disch := first | omega | assumption) only [C.law3_apart_gos, vs, Go.Vc.vk, T.ts, ↓reduceIte, Nat.reduceEqDiff, reduceCtorEq, Nat.reduceLeDiff, Nat.reducePow, Int.reducePow, Int.reduceToNat, Nat.reduceAdd]
      refine eff_append_ownG (m := 2) T.slT_23 rfl rfl (O.L.push _) rfl (Rd_new (vs := flatV [⟨80, [], 0⟩, ⟨80, [], 0⟩])) (flatV_one _) (by omega) (by omega) (by have := F.size; simp; omega) ?_
      intro v2 h2 own2 fr2 _ fresh2 ok2
      have W1 := W.ext (Ext.push hc (.cells (flatV [⟨80, [], 0⟩, ⟨80, [], 0⟩]).toArray 25))
      have ot2 := (O.S.push (.cells (flatV [⟨80, [], 0⟩, ⟨80, [], 0⟩]).toArray 25)).fr fr2 (fun k hk hk2 => O.dj k hk2 hk)
      have W2 := W1.keep hix fr2 (fun b hb => by rw [hrow]; exact Or.inl hb) (by rw [hx, hrow]; exact ⟨vL, vS, rfl, ok2, ot2, O.dj⟩)
      have F2 := Fr.trans (Fr.trans F (Ext.push hc (.cells (flatV [⟨80, [], 0⟩, ⟨80, [], 0⟩]).toArray 25)) (fun _ _ h => h) (fun _ _ h => h.elim)) fr2 (fun _ _ h => h) (fun k _ hs => (O.L.lt k hs).1)
      have dj := O.dj
      have okl := fun k hs => (O.L.lt k hs).1
      clear W W1 own2 fr2 fresh2 c6 F O
      obtain ⟨b2, o2, c2, vL2, vS2, heq2, hrd2, hrow2, _⟩ := W2.at hix
      rw [hxl] at heq2
      cases heq2
      rw [hx, hrow] at hrow2
      rw [hx] at hrd2
      have e7 : vS2 = vS := by
        simp only [List.cons.injEq] at hrow2
        exact hrow2.2.2.1.symm
      subst e7
      have c7 : cellAt h2 ⟨b, o + i * 3 + 2, none⟩ = some vS2 := hrd2 2 _ rfl
      simp (disch := first | omega | assumption) only [C.law3_apart_gos, vs, Go.Vc.vk, T.ts, ↓reduceIte, Nat.reduceEqDiff, reduceCtorEq, Nat.reduceLeDiff, Nat.reducePow, Int.reducePow, Int.reduceToNat, Nat.reduceAdd, hlt', c7]
      refine eff_lits T.slT_23 rfl rfl (by decide) ?_
      simp (disch := first | omega | assumption) only [C.law3_apart_gos, vs, Go.Vc.vk, T.ts, ↓reduceIte, Nat.reduceEqDiff, reduceCtorEq, Nat.reduceLeDiff, Nat.reducePow, Int.reducePow, Int.reduceToNat, Nat.reduceAdd]
      refine eff_append_ownG (m := 2) T.slT_23 rfl rfl (ot2.push _) rfl (Rd_new (vs := flatV [⟨80, [], 0⟩, ⟨80, [], 0⟩])) (flatV_one _) (by omega) (by omega) (by have := F2.size; simp; omega) ?_
      intro v3 h3 own3 fr3 _ fresh3 ot3
      have W3 := W2.ext (Ext.push h2 (.cells (flatV [⟨80, [], 0⟩, ⟨80, [], 0⟩]).toArray 25))
      have ok3 := (ok2.push (.cells (flatV [⟨80, [], 0⟩, ⟨80, [], 0⟩]).toArray 25)).fr fr3 (fun k hk hk2 => dj k hk hk2)
      have W4 := W3.keep hix fr3 (fun b hb => by rw [hrow]; exact Or.inr hb) (by rw [hx, hrow]; exact ⟨vL, vS2, rfl, ok3, ot3, dj⟩)
      have F4 := Fr.trans (Fr.trans F2 (Ext.push h2 (.cells (flatV [⟨80, [], 0⟩, ⟨80, [], 0⟩]).toArray 25)) (fun _ _ h => h) (fun _ _ h => h.elim)) fr3 (fun _ _ h => h) (fun k _ hs => (ot2.lt k hs).1)
      simp (disch := first | omega | assumption) only [C.law3_apart_gos, vs, Go.Vc.vk, T.ts, ↓reduceIte, Nat.reduceEqDiff, reduceCtorEq, Nat.reduceLeDiff, Nat.reducePow, Int.reducePow, Int.reduceToNat, Nat.reduceAdd]
      exact ⟨_, by omega, i + 1, rfl, by omega, by simp, F4, W4⟩
    have hlt' : ¬ (i : Int) < n := by omega
    clear hge hi
    simp (disch := first | omega | assumption) only [C.law3_apart_gos, vs, Go.Vc.vk, T.ts, ↓reduceIte, Nat.reduceEqDiff, reduceCtorEq, Nat.reduceLeDiff, Nat.reducePow, Int.reducePow, Int.reduceToNat, Nat.reduceAdd, hlt']
    refine loop_intro [81, 82, 83] (fun m ρ hc => ∃ (i : Nat), m = n - i ∧ i ≤ n ∧ ρ = [(81, .slice va n vc), (82, .int .i64 n), (83, .int .i64 i)] ∧ Fr (fun b => base ≤ b) h hc ∧ FrsW hc base (.slice va n vc) rows xs) ?_ ?_
    · simp (disch := first | omega | assumption) only [C.law3_apart_gos, vs, Go.Vc.vk, T.ts, ↓reduceIte, Nat.reduceEqDiff, reduceCtorEq, Nat.reduceLeDiff, Nat.reducePow, Int.reducePow, Int.reduceToNat, Nat.reduceAdd]
      exact ⟨_, 0, rfl, Nat.zero_le _, rfl, F, W⟩
    clear F W hlt'
    rintro m ρ hc ⟨i, rfl, hi, rfl, F, W⟩
    rcases Nat.lt_or_ge i n with hlt | hge
    case inr =>
      have hlt' : ¬ (i : Int) < n := by omega
      simp (disch := first | omega | assumption) only [C.law3_apart_gos, vs, Go.Vc.vk, T.ts, ↓reduceIte, Nat.reduceEqDiff, reduceCtorEq, Nat.reduceLeDiff, Nat.reducePow, Int.reducePow, Int.reduceToNat, Nat.reduceAdd, hlt']
      exact F
    have hlt' : (i : Int) < n := by omega
    have hix : i < xs.length := by omega
    have hmk := hMn i hlt
    have hLi := hL _ (getD_mem (d := fr0) hix)
    obtain ⟨b, o, c, vL, vS, heq, hrd, hrow, O⟩ := W.at hix
    rw [hxl] at heq
    cases heq
    generalize hx : xs.getD i fr0 = x at *
    obtain ⟨_, aL, cL, rfl, _⟩ := O.L.slN
    obtain ⟨_, aS, cS, rfl, _⟩ := O.S.slN
    have hld := ld_agg T.ag_35 hrd rfl
    simp (disch := first | omega | assumption) only [C.law3_apart_gos, vs, Go.Vc.vk, T.ts, ↓reduceIte, Nat.reduceEqDiff, reduceCtorEq, Nat.reduceLeDiff, Nat.reducePow, Int.reducePow, Int.reduceToNat, Nat.reduceAdd, hlt', hld]
    refine eff_alloc_z T.zr_35 ?_
    simp (disch := first | omega | assumption) only [C.law3_apart_gos, vs, Go.Vc.vk, T.ts, ↓reduceIte, Nat.reduceEqDiff, reduceCtorEq, Nat.reduceLeDiff, Nat.reducePow, Int.reducePow, Int.reduceToNat, Nat.reduceAdd]
    refine eff_store_new_z T.zr_35 rfl rfl rfl (by simp [Value.cells, oneCell]) rfl ?_
    intro h3 x3 hlt3 hrd3 b3
    change h3[hc.size]? = some (.cells #[.int .i64 x.at', .slice aL x.L.length cL, .slice aS x.S.length cS] 35 (0, 0)) at b3
    have c6 : cellAt h3 ⟨hc.size, 1, none⟩ = some (.slice aL x.L.length cL) := hrd3 1 _ rfl
    have W3 := W.ext x3
    have F3 := Fr.trans F x3 (fun _ _ h => h) (fun _ _ h => h.elim)
    have O3 := O.fr x3 (fun _ _ => id)
    generalize hc.size = q at *
    clear hld hrd hrd3 F W O
    simp (disch := first | omega | assumption) only [C.law3_apart_gos, vs, Go.Vc.vk, T.ts, ↓reduceIte, Nat.reduceEqDiff, reduceCtorEq, Nat.reduceLeDiff, Nat.reducePow, Int.reducePow, Int.reduceToNat, Nat.reduceAdd, c6]
    refine loop_intro [7, 8, 81, 82, 83, 89, 90, 91] (fun m ρ hc => ∃ (j : Nat), m = x.L.length - j ∧ j ≤ x.L.length ∧ ρ = [(7, .int .i64 i), (8, .pointer (some ⟨q, 0, none⟩)), (81, .slice (some ⟨b, o, none⟩) n vc), (82, .int .i64 n), (83, .int .i64 i), (89, .slice aL x.L.length cL), (90, .int .i64 x.L.length), (91, .int .i64 j)] ∧ Ext h3 hc) ?_ ?_
    · simp (disch := first | omega | assumption) only [C.law3_apart_gos, vs, Go.Vc.vk, T.ts, ↓reduceIte, Nat.reduceEqDiff, reduceCtorEq, Nat.reduceLeDiff, Nat.reducePow, Int.reducePow, Int.reduceToNat, Nat.reduceAdd]
      exact ⟨_, 0, rfl, Nat.zero_le _, rfl, Ext.refl _⟩
    rintro m ρ hc4 ⟨j, rfl, hj, rfl, x4⟩
    rcases Nat.lt_or_ge j x.L.length with hjl | hjg
    case inl =>
      have hjl' : (j : Int) < x.L.length := by omega
      obtain ⟨kb, ko, kc, hes, hrj, _⟩ := (O3.L.ext x4).slN.at hjl
      cases hes
      rw [flatV_at hjl] at hrj
      have hz := hmk.1 (x.L.getD j VT.zero) (getD_mem hjl)
      rw [hz] at hrj
      have hldv := ld_agg T.ag_25 hrj rfl
      simp only [VT.cells] at hldv
      simp (disch := first | omega | assumption) only [C.law3_apart_gos, vs, Go.Vc.vk, T.ts, ↓reduceIte, Nat.reduceEqDiff, reduceCtorEq, Nat.reduceLeDiff, Nat.reducePow, Int.reducePow, Int.reduceToNat, Nat.reduceAdd, hjl', hldv]
      refine eff_alloc_z T.zr_25 ?_
      simp (disch := first | omega | assumption) only [C.law3_apart_gos, vs, Go.Vc.vk, T.ts, ↓reduceIte, Nat.reduceEqDiff, reduceCtorEq, Nat.reduceLeDiff, Nat.reducePow, Int.reducePow, Int.reduceToNat, Nat.reduceAdd]
      refine eff_store_new_z T.zr_25 rfl rfl rfl (by simp [Value.cells, oneCell, str]) rfl ?_
      intro h5 x5 hlt5 hrd5 b5
      have g0 : cellAt h5 ⟨hc4.size, 0, none⟩ = some (.int .u8 78) := hrd5 0 _ rfl
      have g2 : cellAt h5 ⟨hc4.size, 2, none⟩ = some (.int .i64 (i : Int)) := hrd5 2 _ rfl
      simp (disch := first | omega | assumption) only [C.law3_apart_gos, vs, Go.Vc.vk, T.ts, ↓reduceIte, Nat.reduceEqDiff, reduceCtorEq, Nat.reduceLeDiff, Nat.reducePow, Int.reducePow, Int.reduceToNat, Nat.reduceAdd, g0, g2, Int.reduceEq]
      exact ⟨_, by omega, j + 1, rfl, by omega, by simp, x4.trans x5⟩
    have hjl' : ¬ (j : Int) < x.L.length := by omega
    have b4 := Fr_blk x4 b3 id
    have c7 : cellAt hc4 ⟨q, 2, none⟩ = some (.slice aS x.S.length cS) := by rw [cellAt_of b4]; rfl
    simp (disch := first | omega | assumption) only [C.law3_apart_gos, vs, Go.Vc.vk, T.ts, ↓reduceIte, Nat.reduceEqDiff, reduceCtorEq, Nat.reduceLeDiff, Nat.reducePow, Int.reducePow, Int.reduceToNat, Nat.reduceAdd, hjl', c7]
    refine loop_intro [7, 81, 82, 83, 106, 107, 108] (fun m ρ hc => ∃ (j : Nat), m = x.S.length - j ∧ j ≤ x.S.length ∧ ρ = [(7, .int .i64 i), (81, .slice (some ⟨b, o, none⟩) n vc), (82, .int .i64 n), (83, .int .i64 i), (106, .slice aS x.S.length cS), (107, .int .i64 x.S.length), (108, .int .i64 j)] ∧ Ext h3 hc) ?_ ?_
    · simp (disch := first | omega | assumption) only [C.law3_apart_gos, vs, Go.Vc.vk, T.ts, ↓reduceIte, Nat.reduceEqDiff, reduceCtorEq, Nat.reduceLeDiff, Nat.reducePow, Int.reducePow, Int.reduceToNat, Nat.reduceAdd]
      exact ⟨_, 0, rfl, Nat.zero_le _, rfl, x4⟩
    clear hj hjg hjl' x4 b4 c7
    rintro m ρ hc5 ⟨j, rfl, hj, rfl, x4⟩
    rcases Nat.lt_or_ge j x.S.length with hjl | hjg
    case inl =>
      have hjl' : (j : Int) < x.S.length := by omega
      obtain ⟨kb, ko, kc, hes, hrj, _⟩ := (O3.S.ext x4).slN.at hjl
      cases hes
      rw [flatV_at hjl] at hrj
      have hz := hmk.2 (x.S.getD j VT.zero) (getD_mem hjl)
      rw [hz] at hrj
      have hldv := ld_agg T.ag_25 hrj rfl
      simp only [VT.cells] at hldv
      simp (disch := first | omega | assumption) only [C.law3_apart_gos, vs, Go.Vc.vk, T.ts, ↓reduceIte, Nat.reduceEqDiff, reduceCtorEq, Nat.reduceLeDiff, Nat.reducePow, Int.reducePow, Int.reduceToNat, Nat.reduceAdd, hjl', hldv]
      refine eff_alloc_z T.zr_25 ?_
      simp (disch := first | omega | assumption) only [C.law3_apart_gos, vs, Go.Vc.vk, T.ts, ↓reduceIte, Nat.reduceEqDiff, reduceCtorEq, Nat.reduceLeDiff, Nat.reducePow, Int.reducePow, Int.reduceToNat, Nat.reduceAdd]
      refine eff_store_new_z T.zr_25 rfl rfl rfl (by simp [Value.cells, oneCell, str]) rfl ?_
      intro h5 x5 hlt5 hrd5 b5
      have g0 : cellAt h5 ⟨hc5.size, 0, none⟩ = some (.int .u8 79) := hrd5 0 _ rfl
      have g2 : cellAt h5 ⟨hc5.size, 2, none⟩ = some (.int .i64 (i : Int)) := hrd5 2 _ rfl
      simp (disch := first | omega | assumption) only [C.law3_apart_gos, vs, Go.Vc.vk, T.ts, ↓reduceIte, Nat.reduceEqDiff, reduceCtorEq, Nat.reduceLeDiff, Nat.reducePow, Int.reducePow, Int.reduceToNat, Nat.reduceAdd, g0, g2, Int.reduceEq]
      exact ⟨_, by omega, j + 1, rfl, by omega, by simp, x4.trans x5⟩
    have hjl' : ¬ (j : Int) < x.S.length := by omega
    simp (disch := first | omega | assumption) only [C.law3_apart_gos, vs, Go.Vc.vk, T.ts, ↓reduceIte, Nat.reduceEqDiff, reduceCtorEq, Nat.reduceLeDiff, Nat.reducePow, Int.reducePow, Int.reduceToNat, Nat.reduceAdd, hjl']
    exact ⟨_, by omega, i + 1, rfl, by omega, by simp, Fr.trans F3 x4 (fun _ _ h => h) (fun _ _ h => h.elim), W3.ext x4⟩
  have hlt' : (i : Int) < n := by omega
  have hix : i < xs.length := by omega
  obtain ⟨b, o, c, vL, vS, heq, hrd, hrow, O⟩ := W.at hix
  rw [hxl] at heq
  cases heq
  obtain ⟨_, aL, cL, rfl, _⟩ := O.L.slN
  have c6 : cellAt hc ⟨b, o + i * 3 + 1, none⟩ = some (.slice aL (xs.getD i fr0).L.length cL) := hrd 1 _ rfl
  obtain ⟨N, hN⟩ : ∃ N, N = (xs.getD i fr0).L.length := ⟨_, rfl⟩
  have hNle : N ≤ 1073741824 := by rw [hN]; exact (hL _ (getD_mem (d := fr0) hix)).1
  rw [← hN] at c6
  simp (disch := first | omega | assumption) only [C.law3_apart_gos, vs, Go.Vc.vk, T.ts, ↓reduceIte, Nat.reduceEqDiff, reduceCtorEq, Nat.reduceLeDiff, Nat.reducePow, Int.reducePow, Int.reduceToNat, Nat.reduceAdd, hlt', c6]
  refine loop_intro [0, 3, 14, 15, 23, 24] (fun m ρ hc => ∃ (p : Nat) (xs : List Frm), m = N - p ∧ p ≤ N ∧ xs.length = n ∧ (xs.getD i fr0).L.length = N ∧ ρ = [(0, .slice (some ⟨b, o, none⟩) n vc), (3, .int .i64 i), (14, .int .i64 n), (15, .int .i64 i), (23, .int .i64 N), (24, .int .i64 p)] ∧ Fr (fun b => base ≤ b) h hc ∧ FrsW hc base (.slice (some ⟨b, o, none⟩) n vc) rows xs ∧ LB xs ∧ (∀ j, j < i → Mk j (xs.getD j fr0)) ∧ ∀ q, q < p → (xs.getD i fr0).L.getD q VT.zero = ⟨78, [], (i : Int)⟩) ?_ ?_
  · simp (disch := first | omega | assumption) only [C.law3_apart_gos, vs, Go.Vc.vk, T.ts, ↓reduceIte, Nat.reduceEqDiff, reduceCtorEq, Nat.reduceLeDiff, Nat.reducePow, Int.reducePow, Int.reduceToNat, Nat.reduceAdd]
    exact ⟨_, 0, xs, rfl, Nat.zero_le _, hxl, hN.symm, rfl, F, W, hL, hM, fun q hq => by omega⟩
  clear F W hM hL hxl hN hrd hrow O c6 hix
  rintro m ρ hc1 ⟨p, xs, rfl, hp, hxl, hN, rfl, F, W, hL, hM, hP⟩
  have hix : i < xs.length := by omega
  rcases Nat.lt_or_ge p N with hpl | hpg
  case inl =>
    have hpl' : (p : Int) < N := by omega
    obtain ⟨b2, o2, c2, vL, vS, heq, hrd, hrow, O⟩ := W.at hix
    rw [hxl] at heq
    cases heq
    have ow := O.L
    rw [hN] at ow
    obtain ⟨kb, kc, cur, fz, hv, kg, klen, kfz, kset⟩ := ow.row hpl
    subst hv
    have c6 : cellAt hc1 ⟨b, o + i * 3 + 1, none⟩ = some (.slice (some ⟨kb, 0, none⟩) N kc) := hrd 1 _ rfl
    simp (disch := first | omega | assumption) only [C.law3_apart_gos, vs, Go.Vc.vk, T.ts, ↓reduceIte, Nat.reduceEqDiff, reduceCtorEq, Nat.reduceLeDiff, Nat.reducePow, Int.reducePow, Int.reduceToNat, Nat.reduceAdd, hpl', hlt', c6]
    refine eff_storeN_zz T.zr_25 rfl rfl rfl (by simp [Value.cells, oneCell, str]) kg klen kfz ?_
    intro hc2 f1 g1
    have hset := kset hc2 (VT.cells ⟨78, [], (i : Int)⟩) rfl g1
    have hkb := (ow.lt kb rfl).1
    have hin2 : FrP hc2 base { xs.getD i fr0 with L := (xs.getD i fr0).L.set p ⟨78, [], (i : Int)⟩ } (rows.getD i []) := by
      refine ⟨.slice (some ⟨kb, 0, none⟩) N kc, vS, hrow, ?_, ?_, O.dj⟩
      · exact Own_cast hset (by rw [List.length_set, hN]) (flatV_set _ _ _ (by omega)).symm
      · exact O.S.fr f1 (fun k hk hs => by subst hs; exact O.dj k rfl hk)
    have W2 := W.upd hix f1 (fun b hb => by subst hb; rw [hrow]; exact Or.inl rfl) hin2
    have F2 := Fr.trans F f1 (fun _ _ h => h) (fun k _ hs => by omega)
    simp (disch := first | omega | assumption) only [C.law3_apart_gos, vs, Go.Vc.vk, T.ts, ↓reduceIte, Nat.reduceEqDiff, reduceCtorEq, Nat.reduceLeDiff, Nat.reducePow, Int.reducePow, Int.reduceToNat, Nat.reduceAdd]
    refine ⟨_, by omega, p + 1, xs.set i { xs.getD i fr0 with L := (xs.getD i fr0).L.set p ⟨78, [], (i : Int)⟩ }, rfl, by omega, by simp [hxl], ?_, by simp, F2, W2, hL.set (by have := hL _ (getD_mem (d := fr0) hix); simpa using this), ?_, ?_⟩
    · rw [getD_set hix, if_pos rfl]; show (List.set _ _ _).length = _; rw [List.length_set, hN]
    · intro j hj
      rw [getD_set hix, if_neg (by omega)]; exact hM j hj
    · rw [getD_set hix, if_pos rfl]
      exact set_all (by omega) hP
  have hpl2 : ¬ (p : Int) < N := by omega
  have hKall : ∀ z ∈ (xs.getD i fr0).L, z = ⟨78, [], (i : Int)⟩ := all_mem fun q hq => hP q (by omega)
  obtain ⟨b2, o2, c2, vL, vS, heq, hrd, hrow, O⟩ := W.at hix
  rw [hxl] at heq
  cases heq
  obtain ⟨_, aS, cS, rfl, _⟩ := O.S.slN
  have c7 : cellAt hc1 ⟨b, o + i * 3 + 2, none⟩ = some (.slice aS (xs.getD i fr0).S.length cS) := hrd 2 _ rfl
  obtain ⟨M, hM2⟩ : ∃ M, M = (xs.getD i fr0).S.length := ⟨_, rfl⟩
  have hMle : M ≤ 1073741824 := by rw [hM2]; exact (hL _ (getD_mem (d := fr0) hix)).2
  rw [← hM2] at c7
  simp (disch := first | omega | assumption) only [C.law3_apart_gos, vs, Go.Vc.vk, T.ts, ↓reduceIte, Nat.reduceEqDiff, reduceCtorEq, Nat.reduceLeDiff, Nat.reducePow, Int.reducePow, Int.reduceToNat, Nat.reduceAdd, hpl2, hlt', c7]
  refine loop_intro [0, 3, 14, 15, 42, 43] (fun m ρ hc => ∃ (p : Nat) (xs : List Frm), m = M - p ∧ p ≤ M ∧ xs.length = n ∧ (xs.getD i fr0).S.length = M ∧ ρ = [(0, .slice (some ⟨b, o, none⟩) n vc), (3, .int .i64 i), (14, .int .i64 n), (15, .int .i64 i), (42, .int .i64 M), (43, .int .i64 p)] ∧ Fr (fun b => base ≤ b) h hc ∧ FrsW hc base (.slice (some ⟨b, o, none⟩) n vc) rows xs ∧ LB xs ∧ (∀ j, j < i → Mk j (xs.getD j fr0)) ∧ (∀ z ∈ (xs.getD i fr0).L, z = ⟨78, [], (i : Int)⟩) ∧ ∀ q, q < p → (xs.getD i fr0).S.getD q VT.zero = ⟨79, [], (i : Int)⟩) ?_ ?_
  · simp (disch := first | omega | assumption) only [C.law3_apart_gos, vs, Go.Vc.vk, T.ts, ↓reduceIte, Nat.reduceEqDiff, reduceCtorEq, Nat.reduceLeDiff, Nat.reducePow, Int.reducePow, Int.reduceToNat, Nat.reduceAdd]
    exact ⟨_, 0, xs, rfl, Nat.zero_le _, hxl, hM2.symm, rfl, F, W, hL, hM, hKall, fun q hq => by omega⟩
  clear F W hM hL hxl hM2 hrd hrow O c7 hix hN hP hpl2 hKall
  rintro m ρ hc1 ⟨p, xs, rfl, hp, hxl, hM2, rfl, F, W, hL, hM, hKall, hP⟩
  have hix : i < xs.length := by omega
  rcases Nat.lt_or_ge p M with hpl | hpg
  case inl =>
    have hpl' : (p : Int) < M := by omega
    obtain ⟨b2, o2, c2, vL, vS, heq, hrd, hrow, O⟩ := W.at hix
    rw [hxl] at heq
    cases heq
    have ow := O.S
    rw [hM2] at ow
    obtain ⟨kb, kc, cur, fz, hv, kg, klen, kfz, kset⟩ := ow.row hpl
    subst hv
    have c6 : cellAt hc1 ⟨b, o + i * 3 + 2, none⟩ = some (.slice (some ⟨kb, 0, none⟩) M kc) := hrd 2 _ rfl
    simp (disch := first | omega | assumption) only [C.law3_apart_gos, vs, Go.Vc.vk, T.ts, ↓reduceIte, Nat.reduceEqDiff, reduceCtorEq, Nat.reduceLeDiff, Nat.reducePow, Int.reducePow, Int.reduceToNat, Nat.reduceAdd, hpl', hlt', c6]
    refine eff_storeN_zz T.zr_25 rfl rfl rfl (by simp [Value.cells, oneCell, str]) kg klen kfz ?_
    intro hc2 f1 g1
    have hset := kset hc2 (VT.cells ⟨79, [], (i : Int)⟩) rfl g1
    have hkb := (ow.lt kb rfl).1
    have hin2 : FrP hc2 base { xs.getD i fr0 with S := (xs.getD i fr0).S.set p ⟨79, [], (i : Int)⟩ } (rows.getD i []) := by
      refine ⟨vL, .slice (some ⟨kb, 0, none⟩) M kc, hrow, ?_, ?_, O.dj⟩
      · exact O.L.fr f1 (fun k hk hs => by subst hs; exact O.dj k hk rfl)
      · exact Own_cast hset (by rw [List.length_set, hM2]) (flatV_set _ _ _ (by omega)).symm
    have W2 := W.upd hix f1 (fun b hb => by subst hb; rw [hrow]; exact Or.inr rfl) hin2
    have F2 := Fr.trans F f1 (fun _ _ h => h) (fun k _ hs => by omega)
    simp (disch := first | omega | assumption) only [C.law3_apart_gos, vs, Go.Vc.vk, T.ts, ↓reduceIte, Nat.reduceEqDiff, reduceCtorEq, Nat.reduceLeDiff, Nat.reducePow, Int.reducePow, Int.reduceToNat, Nat.reduceAdd]
    refine ⟨_, by omega, p + 1, xs.set i { xs.getD i fr0 with S := (xs.getD i fr0).S.set p ⟨79, [], (i : Int)⟩ }, rfl, by omega, by simp [hxl], ?_, by simp, F2, W2, hL.set (by have := hL _ (getD_mem (d := fr0) hix); simpa using this), ?_, ?_, ?_⟩
    · rw [getD_set hix, if_pos rfl]; show (List.set _ _ _).length = _; rw [List.length_set, hM2]
    · intro j hj
      rw [getD_set hix, if_neg (by omega)]; exact hM j hj
    · rw [getD_set hix, if_pos rfl]; exact hKall
    · rw [getD_set hix, if_pos rfl]
      exact set_all (by omega) hP
  have hpl' : ¬ (p : Int) < M := by omega
  have hTall : ∀ z ∈ (xs.getD i fr0).S, z = ⟨79, [], (i : Int)⟩ := all_mem fun q hq => hP q (by omega)
  simp (disch := first | omega | assumption) only [C.law3_apart_gos, vs, Go.Vc.vk, T.ts, ↓reduceIte, Nat.reduceEqDiff, reduceCtorEq, Nat.reduceLeDiff, Nat.reducePow, Int.reducePow, Int.reduceToNat, Nat.reduceAdd, hpl']
  refine ⟨_, by omega, i + 1, xs, rfl, by omega, hxl, by simp, F, W, hL, ?_⟩
  intro j hj
  rcases Nat.lt_or_ge j i with hji | hji
  · exact hM j hji
  · have : j = i := by omega
    subst this; exact ⟨hKall, hTall⟩
end
end Go.Proofs.Ytohkbpnblkkdgaa

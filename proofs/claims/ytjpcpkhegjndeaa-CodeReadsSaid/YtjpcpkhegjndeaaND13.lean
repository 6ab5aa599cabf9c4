/- Lists of their own: the law's test of it. -/
import Derived.Test.YtjpcpkhegjndeaaND12
import Derived.Test.YtjpcpkhegjndeaaCi
import Derived.Test.YtjpcpkhegjndeaaVcP
namespace Go.Proofs.Ytjpcpkhegjndeaa
open Go.Vc
set_option maxRecDepth 100000
set_option linter.unusedSimpArgs false
set_option linter.unusedVariables false

def InsW (h : Heap) (base : Nat) (v : Value) (rows : List (List Value)) (xs : List In) : Prop := rows.length = xs.length ∧ Own h base 35 8 v xs.length rows.flatten ∧
  (∀ j, j < xs.length → InP h base (xs.getD j in0) (rows.getD j [])) ∧ ∀ j k, j < k → k < xs.length → ∀ b c, rowB (rows.getD j []) b → rowB (rows.getD k []) c → b < c
theorem getD_set {α : Type} {l : List α} {k j : Nat} {x d : α} (hk : k < l.length) : (l.set k x).getD j d = if j = k then x else l.getD j d := by
  by_cases h : j = k
  · subst h; simp [hk]
  · simp [List.getElem?_set, h, Ne.symm h]
section
variable {h h' : Heap} {base : Nat} {v : Value} {rows : List (List Value)} {xs : List In}
theorem InsW.upd (H : InsW h base v rows xs) {k : Nat} {x' : In} {S : Nat → Prop} (hk : k < xs.length) (f : Fr S h h') (hS : ∀ b, S b → rowB (rows.getD k []) b) (hx : InP h' base x' (rows.getD k [])) : InsW h' base v rows (xs.set k x') := by
  obtain ⟨h1, h2, h3, h4⟩ := H
  refine ⟨by simp [h1], ?_, ?_, ?_⟩
  · rw [List.length_set]
    refine h2.fr f fun b hb hs => ?_
    obtain ⟨cs, fz, hc⟩ := Own.cells h2 hb
    exact absurd ((h3 k hk).int (hS b hs) hc) (by decide)
  · intro j hj
    rw [List.length_set] at hj
    rw [getD_set hk]
    by_cases hjk : j = k
    · subst hjk; rw [if_pos rfl]; exact hx
    · rw [if_neg hjk]
      refine (h3 j hj).fr f fun b hb hs => ?_
      rcases Nat.lt_or_gt_of_ne hjk with hlt | hgt
      · exact Nat.lt_irrefl _ (h4 j k hlt hk b b hb (hS b hs))
      · exact Nat.lt_irrefl _ (h4 k j hgt hj b b (hS b hs) hb)
  · intro j k' hjk hk' b c hb hc
    rw [List.length_set] at hk'
    exact h4 j k' hjk hk' b c hb hc
theorem InsW.keep (H : InsW h base v rows xs) {k : Nat} {S : Nat → Prop} (hk : k < xs.length) (f : Fr S h h') (hS : ∀ b, S b → rowB (rows.getD k []) b) (hx : InP h' base (xs.getD k in0) (rows.getD k [])) : InsW h' base v rows xs := by
  have := H.upd hk f hS hx
  have e : xs.set k (xs.getD k in0) = xs := by simp [hk]
  rwa [e] at this
theorem InsW.ext (H : InsW h base v rows xs) (f : Ext h h') : InsW h' base v rows xs := by
  obtain ⟨h1, h2, h3, h4⟩ := H
  exact ⟨h1, h2.ext f, fun j hj => (h3 j hj).fr f (fun _ _ => id), h4⟩
theorem InsW.at (H : InsW h base v rows xs) {i : Nat} (hi : i < xs.length) : ∃ b o c vk vt, v = .slice (some ⟨b, o, none⟩) xs.length c ∧ Rd h b (o + i * 8) (InV (xs.getD i in0) vk vt) ∧ rows.getD i [] = InV (xs.getD i in0) vk vt ∧
    Own h base 3 1 vk (xs.getD i in0).keys.length (intsV (xs.getD i in0).keys) ∧ Own h base 3 1 vt (xs.getD i in0).tgts.length (intsV (xs.getD i in0).tgts) ∧ ∀ k, vk.ownBlock = some k → ¬ vt.ownBlock = some k := by
  obtain ⟨h1, h2, h3, _⟩ := H
  obtain ⟨b, o, c, e1, e2, e3⟩ := h2.slN.at hi
  have hall : ∀ r ∈ rows, r.length = 8 := by
    intro r hr
    obtain ⟨j, hj, rfl⟩ := List.mem_iff_getElem.1 hr
    have := (h3 j (by omega)).inc.len
    simpa [hj] using this
  rw [flatten_atW 8 rows i hall (by omega)] at e2
  obtain ⟨vk, vt, q1, q2, q3, q4⟩ := h3 i hi
  rw [q1] at e2
  exact ⟨b, o, c, vk, vt, e1, e2, q1, q2, q3, q4⟩
theorem InsW.len (H : InsW h base v rows xs) : xs.length ≤ 9223372036854775807 := Own_le H.2.1
theorem Own.at0 {e : TypeId} {n : Nat} {ys : List Value} (H : Own h base e 1 v n ys) {i : Nat} (hi : i < n) : ∃ g c, v = .slice (some ⟨g, 0, none⟩) n c ∧ cellAt h ⟨g, i, none⟩ = some (ys.getD i undef) ∧ frozenAt h ⟨g, i, none⟩ = false ∧
    ∀ z, Own (setAt h ⟨g, i, none⟩ z) base e 1 (.slice (some ⟨g, 0, none⟩) n c) n (ys.set i z) := by
  obtain ⟨hl, h0⟩ := H
  rcases h0 with ⟨_, rfl⟩ | ⟨g, cap, cur, fz, rfl, hb, hg, hfz, hnc, hcm, hcs, htk⟩
  · omega
  · refine ⟨g, cap, rfl, ?_, ?_, ?_⟩
    · rw [cellAt_of hg]
      have h1 : cur.toList[i]? = ys[i]? := by
        rw [← htk, List.getElem?_take, if_pos (by omega)]
      have h2 : i < ys.length := by omega
      have h3 : cur[i]? = cur.toList[i]? := by simp
      rw [h3, h1]
      simp [h2]
    · have := hfz i (by omega)
      simp only [frozenAt, hg]
      simp only [Bool.and_eq_false_iff, decide_eq_false_iff_not]
      omega
    · intro z
      refine ⟨by simpa using hl, .inr ⟨g, cap, cur.setIfInBounds i z, fz, rfl, hb, setAt_get hg z, hfz, hnc, hcm, by simpa using hcs, ?_⟩⟩
      rw [Array.toList_setIfInBounds, List.take_set, htk]
end
def Mk (k : Nat) (x : In) : Prop := (∀ z ∈ x.keys, z = 2 * (k : Int) + 1000000) ∧ (∀ z ∈ x.tgts, z = 2 * (k : Int) + 1000001)
def LB (xs : List In) : Prop := ∀ x ∈ xs, x.keys.length ≤ 1073741824 ∧ x.tgts.length ≤ 1073741824
theorem LB.set {xs : List In} (H : LB xs) {i : Nat} {x' : In} (h : x'.keys.length ≤ 1073741824 ∧ x'.tgts.length ≤ 1073741824) : LB (xs.set i x') := by
  intro x hx
  rcases List.mem_or_eq_of_mem_set hx with hx | rfl
  · exact H x hx
  · exact h
theorem set_all {l : List Int} {p : Nat} {z : Int} (hp : p < l.length) (h : ∀ q, q < p → l.getD q 0 = z) : ∀ q, q < p + 1 → (l.set p z).getD q 0 = z := by
  intro q hq
  rw [getD_set hp]
  by_cases e : q = p
  · rw [if_pos e]
  · rw [if_neg e]; exact h q (by omega)
theorem all_mem {l : List Int} {z : Int} (h : ∀ q, q < l.length → l.getD q 0 = z) : ∀ y ∈ l, y = z := by
  intro y hy
  obtain ⟨q, hq, rfl⟩ := List.mem_iff_getElem.1 hy
  have := h q hq
  simpa [hq] using this
section
variable {h : Heap} {base : Nat} {v : Value} {rows : List (List Value)}
set_option maxHeartbeats 8000000 in
theorem apart_any (xs0 : List In) (hlen : xs0.length ≤ 1073741824) (H : InsW h base v rows xs0) (hL : LB xs0) (hbase : base ≤ h.size) :
    HCalls Try.prog 13 #[v] h fun r h' => Fr (fun b => base ≤ b) h h' ∧ r = .bool true := by
  refine C.law2_apart_calls (args := [v]) rfl ?_
  obtain ⟨n, hn⟩ : ∃ n, n = xs0.length := ⟨_, rfl⟩
  obtain ⟨va, vc, hv, _⟩ := H.2.1.slN.2
  rw [← hn] at hv hlen
  subst hv
  simp (disch := first | omega | assumption) only [C.law2_apart_gos, vs, Go.Vc.vk, T.ts, ↓reduceIte, Nat.reduceEqDiff, reduceCtorEq, Nat.reduceLeDiff, Nat.reducePow, Int.reducePow, Int.reduceToNat, Nat.reduceAdd]
  refine loop_intro [0, 14, 15] (fun m ρ hc => ∃ (i : Nat) (xs : List In), m = n - i ∧ i ≤ n ∧ xs.length = n ∧ ρ = [(0, .slice va n vc), (14, .int .i64 n), (15, .int .i64 i)] ∧ Fr (fun b => base ≤ b) h hc ∧ InsW hc base (.slice va n vc) rows xs ∧ LB xs ∧ ∀ j, j < i → Mk j (xs.getD j in0)) ?_ ?_
  · simp (disch := first | omega | assumption) only [C.law2_apart_gos, vs, Go.Vc.vk, T.ts, ↓reduceIte, Nat.reduceEqDiff, reduceCtorEq, Nat.reduceLeDiff, Nat.reducePow, Int.reducePow, Int.reduceToNat, Nat.reduceAdd]
    exact ⟨_, 0, xs0, rfl, Nat.zero_le _, hn.symm, rfl, Fr.refl _ _, H, hL, fun j hj => by omega⟩
  clear H hL
  rintro m ρ hc ⟨i, xs, rfl, hi, hxl, rfl, F, W, hL, hM⟩
  rcases Nat.lt_or_ge i n with hlt | hge
  case inr =>
    have hlt' : ¬ (i : Int) < n := by omega
    have hin : i = n := by omega
    have hMn : ∀ j, j < n → Mk j (xs.getD j in0) := fun j hj => hM j (by omega)
    clear hM hge hin hi
    simp (disch := first | omega | assumption) only [C.law2_apart_gos, vs, Go.Vc.vk, T.ts, ↓reduceIte, Nat.reduceEqDiff, reduceCtorEq, Nat.reduceLeDiff, Nat.reducePow, Int.reducePow, Int.reduceToNat, Nat.reduceAdd, hlt']
    refine loop_intro [0, 60, 61] (fun m ρ hc => ∃ (i : Nat), m = n - i ∧ i ≤ n ∧ ρ = [(0, .slice va n vc), (60, .int .i64 n), (61, .int .i64 i)] ∧ Fr (fun b => base ≤ b) h hc ∧ InsW hc base (.slice va n vc) rows xs) ?_ ?_
    · simp (disch := first | omega | assumption) only [C.law2_apart_gos, vs, Go.Vc.vk, T.ts, ↓reduceIte, Nat.reduceEqDiff, reduceCtorEq, Nat.reduceLeDiff, Nat.reducePow, Int.reducePow, Int.reduceToNat, Nat.reduceAdd]
      exact ⟨_, 0, rfl, Nat.zero_le _, rfl, F, W⟩
    clear F W hlt'
    rintro m ρ hc ⟨i, rfl, hi, rfl, F, W⟩
    rcases Nat.lt_or_ge i n with hlt | hge
    case inl =>
      have hlt' : (i : Int) < n := by omega
      have hix : i < xs.length := by omega
      have hLi := hL _ (getD_mem (d := in0) hix)
      obtain ⟨b, o, c, vk, vt, heq, hrd, hrow, ok, ot, dj⟩ := W.at hix
      rw [hxl] at heq
      cases heq
      generalize hx : xs.getD i in0 = x at *
      have c6 : cellAt hc ⟨b, o + i * 8 + 6, none⟩ = some vk := hrd 6 _ rfl
      simp (disch := first | omega | assumption) only [C.law2_apart_gos, vs, Go.Vc.vk, T.ts, ↓reduceIte, Nat.reduceEqDiff, reduceCtorEq, Nat.reduceLeDiff, Nat.reducePow, Int.reducePow, Int.reduceToNat, Nat.reduceAdd, hlt', c6]
      refine eff_lits T.slT_33 rfl rfl (by decide) ?_
      simp (disch := first | omega | assumption) only [C.law2_apart_gos, vs, Go.Vc.vk, T.ts, ↓reduceIte, Nat.reduceEqDiff, reduceCtorEq, Nat.reduceLeDiff, Nat.reducePow, Int.reducePow, Int.reduceToNat, Nat.reduceAdd]
      refine eff_append_ownG (m := 2) T.slT_33 rfl rfl (ok.push _) rfl (Rd_new (vs := [.int .i64 (-1), .int .i64 (-1)])) (by simp [oneCell]) (by omega) (by omega) (by have := F.size; simp; omega) ?_
      intro v2 h2 own2 fr2 _ fresh2 ok2
      have W1 := W.ext (Ext.push hc (.cells #[.int .i64 (-1), .int .i64 (-1)] 3))
      have ot2 := (ot.push (.cells #[.int .i64 (-1), .int .i64 (-1)] 3)).fr fr2 (fun k hk hk2 => dj k hk2 hk)
      have W2 := W1.keep hix fr2 (fun b hb => by rw [hrow]; exact Or.inl hb) (by rw [hx, hrow]; exact ⟨vk, vt, rfl, ok2, ot2, dj⟩)
      have F2 := Fr.trans (Fr.trans F (Ext.push hc (.cells #[.int .i64 (-1), .int .i64 (-1)] 3)) (fun _ _ h => h) (fun _ _ h => h.elim)) fr2 (fun _ _ h => h) (fun k _ hs => (ok.lt k hs).1)
      clear W W1 own2 fr2 fresh2 c6 F
      obtain ⟨b2, o2, c2, vk2, vt2, heq2, hrd2, hrow2, _, _, _⟩ := W2.at hix
      rw [hxl] at heq2
      cases heq2
      rw [hx, hrow] at hrow2
      rw [hx] at hrd2
      have e7 : vt2 = vt := by
        simp only [InV, List.cons.injEq] at hrow2
        exact hrow2.2.2.2.2.2.2.2.1.symm
      subst e7
      have c7 : cellAt h2 ⟨b, o + i * 8 + 7, none⟩ = some vt2 := hrd2 7 _ rfl
      simp (disch := first | omega | assumption) only [C.law2_apart_gos, vs, Go.Vc.vk, T.ts, ↓reduceIte, Nat.reduceEqDiff, reduceCtorEq, Nat.reduceLeDiff, Nat.reducePow, Int.reducePow, Int.reduceToNat, Nat.reduceAdd, hlt', c7]
      refine eff_lits T.slT_33 rfl rfl (by decide) ?_
      simp (disch := first | omega | assumption) only [C.law2_apart_gos, vs, Go.Vc.vk, T.ts, ↓reduceIte, Nat.reduceEqDiff, reduceCtorEq, Nat.reduceLeDiff, Nat.reducePow, Int.reducePow, Int.reduceToNat, Nat.reduceAdd]
      refine eff_append_ownG (m := 2) T.slT_33 rfl rfl (ot2.push _) rfl (Rd_new (vs := [.int .i64 (-1), .int .i64 (-1)])) (by simp [oneCell]) (by omega) (by omega) (by have := F2.size; simp; omega) ?_
      intro v3 h3 own3 fr3 _ fresh3 ot3
      have W3 := W2.ext (Ext.push h2 (.cells #[.int .i64 (-1), .int .i64 (-1)] 3))
      have ok3 := (ok2.push (.cells #[.int .i64 (-1), .int .i64 (-1)] 3)).fr fr3 (fun k hk hk2 => dj k hk hk2)
      have W4 := W3.keep hix fr3 (fun b hb => by rw [hrow]; exact Or.inr hb) (by rw [hx, hrow]; exact ⟨vk, vt2, rfl, ok3, ot3, dj⟩)
      have F4 := Fr.trans (Fr.trans F2 (Ext.push h2 (.cells #[.int .i64 (-1), .int .i64 (-1)] 3)) (fun _ _ h => h) (fun _ _ h => h.elim)) fr3 (fun _ _ h => h) (fun k _ hs => (ot2.lt k hs).1)
      simp (disch := first | omega | assumption) only [C.law2_apart_gos, vs, Go.Vc.vk, T.ts, ↓reduceIte, Nat.reduceEqDiff, reduceCtorEq, Nat.reduceLeDiff, Nat.reducePow, Int.reducePow, Int.reduceToNat, Nat.reduceAdd]
      exact ⟨_, by omega, i + 1, rfl, by omega, by simp, F4, W4⟩
    have hlt' : ¬ (i : Int) < n := by omega
    clear hge hi
    simp (disch := first | omega | assumption) only [C.law2_apart_gos, vs, Go.Vc.vk, T.ts, ↓reduceIte, Nat.reduceEqDiff, reduceCtorEq, Nat.reduceLeDiff, Nat.reducePow, Int.reducePow, Int.reduceToNat, Nat.reduceAdd, hlt']
    refine loop_intro [79, 80, 81] (fun m ρ hc => ∃ (i : Nat), m = n - i ∧ i ≤ n ∧ ρ = [(79, .slice va n vc), (80, .int .i64 n), (81, .int .i64 i)] ∧ Fr (fun b => base ≤ b) h hc ∧ InsW hc base (.slice va n vc) rows xs) ?_ ?_
    · simp (disch := first | omega | assumption) only [C.law2_apart_gos, vs, Go.Vc.vk, T.ts, ↓reduceIte, Nat.reduceEqDiff, reduceCtorEq, Nat.reduceLeDiff, Nat.reducePow, Int.reducePow, Int.reduceToNat, Nat.reduceAdd]
      exact ⟨_, 0, rfl, Nat.zero_le _, rfl, F, W⟩
    clear F W hlt'
    rintro m ρ hc ⟨i, rfl, hi, rfl, F, W⟩
    rcases Nat.lt_or_ge i n with hlt | hge
    case inr =>
      have hlt' : ¬ (i : Int) < n := by omega
      simp (disch := first | omega | assumption) only [C.law2_apart_gos, vs, Go.Vc.vk, T.ts, ↓reduceIte, Nat.reduceEqDiff, reduceCtorEq, Nat.reduceLeDiff, Nat.reducePow, Int.reducePow, Int.reduceToNat, Nat.reduceAdd, hlt']
      exact F
    have hlt' : (i : Int) < n := by omega
    have hix : i < xs.length := by omega
    have hmk := hMn i hlt
    have hLi := hL _ (getD_mem (d := in0) hix)
    obtain ⟨b, o, c, vk, vt, heq, hrd, hrow, ok, ot, dj⟩ := W.at hix
    rw [hxl] at heq
    cases heq
    generalize hx : xs.getD i in0 = x at *
    obtain ⟨ak, ck, rfl, _⟩ := ok.slN.2
    obtain ⟨at7, ct, rfl, _⟩ := ot.slN.2
    have hld := ld_agg T.ag_35 hrd rfl
    simp only [InV] at hld
    simp (disch := first | omega | assumption) only [C.law2_apart_gos, vs, Go.Vc.vk, T.ts, ↓reduceIte, Nat.reduceEqDiff, reduceCtorEq, Nat.reduceLeDiff, Nat.reducePow, Int.reducePow, Int.reduceToNat, Nat.reduceAdd, hlt', hld]
    refine eff_alloc_z T.zr_35 ?_
    simp (disch := first | omega | assumption) only [C.law2_apart_gos, vs, Go.Vc.vk, T.ts, ↓reduceIte, Nat.reduceEqDiff, reduceCtorEq, Nat.reduceLeDiff, Nat.reducePow, Int.reducePow, Int.reduceToNat, Nat.reduceAdd]
    refine eff_store_new_z T.zr_35 rfl rfl rfl (by simp [Value.cells, oneCell]) rfl ?_
    intro h3 x3 hlt3 hrd3 b3
    have c6 : cellAt h3 ⟨hc.size, 6, none⟩ = some (.slice ak x.keys.length ck) := hrd3 6 _ rfl
    have c7 : cellAt h3 ⟨hc.size, 7, none⟩ = some (.slice at7 x.tgts.length ct) := hrd3 7 _ rfl
    have W3 := W.ext x3
    have F3 := Fr.trans F x3 (fun _ _ h => h) (fun _ _ h => h.elim)
    have ok3 := ok.ext x3
    have ot3 := ot.ext x3
    generalize hc.size = q at *
    clear hld hrd hrd3 b3 F W ok ot
    simp (disch := first | omega | assumption) only [C.law2_apart_gos, vs, Go.Vc.vk, T.ts, ↓reduceIte, Nat.reduceEqDiff, reduceCtorEq, Nat.reduceLeDiff, Nat.reducePow, Int.reducePow, Int.reduceToNat, Nat.reduceAdd, c6]
    refine loop_intro [7, 8, 79, 80, 81, 87, 88, 89] (fun m ρ hc => ∃ (j : Nat), m = x.keys.length - j ∧ j ≤ x.keys.length ∧ ρ = [(7, .int .i64 i), (8, .pointer (some ⟨q, 0, none⟩)), (79, .slice (some ⟨b, o, none⟩) n vc), (80, .int .i64 n), (81, .int .i64 i), (87, .slice ak x.keys.length ck), (88, .int .i64 x.keys.length), (89, .int .i64 j)] ∧ hc = h3) ?_ ?_
    · simp (disch := first | omega | assumption) only [C.law2_apart_gos, vs, Go.Vc.vk, T.ts, ↓reduceIte, Nat.reduceEqDiff, reduceCtorEq, Nat.reduceLeDiff, Nat.reducePow, Int.reducePow, Int.reduceToNat, Nat.reduceAdd]
      exact ⟨_, 0, rfl, Nat.zero_le _, rfl⟩
    rintro m ρ hc4 ⟨j, rfl, hj, rfl, rfl⟩
    rcases Nat.lt_or_ge j x.keys.length with hjl | hjg
    case inl =>
      have hjl' : (j : Int) < x.keys.length := by omega
      obtain ⟨kb, kc, hes, k0, _, _⟩ := Own.at0 ok3 hjl
      cases hes
      have hz := hmk.1 (x.keys.getD j 0) (getD_mem hjl)
      have k1 : cellAt hc4 ⟨kb, j, none⟩ = some (.int .i64 (2 * (i : Int) + 1000000)) := by
        rw [k0, ← hz]; simp [intsV, hjl]
      simp (disch := first | omega | assumption) only [C.law2_apart_gos, vs, Go.Vc.vk, T.ts, ↓reduceIte, Nat.reduceEqDiff, reduceCtorEq, Nat.reduceLeDiff, Nat.reducePow, Int.reducePow, Int.reduceToNat, Nat.reduceAdd, hjl', k1]
      exact ⟨_, by omega, j + 1, rfl, by omega, by simp⟩
    have hjl' : ¬ (j : Int) < x.keys.length := by omega
    simp (disch := first | omega | assumption) only [C.law2_apart_gos, vs, Go.Vc.vk, T.ts, ↓reduceIte, Nat.reduceEqDiff, reduceCtorEq, Nat.reduceLeDiff, Nat.reducePow, Int.reducePow, Int.reduceToNat, Nat.reduceAdd, hjl', c7]
    refine loop_intro [7, 79, 80, 81, 100, 101, 102] (fun m ρ hc => ∃ (j : Nat), m = x.tgts.length - j ∧ j ≤ x.tgts.length ∧ ρ = [(7, .int .i64 i), (79, .slice (some ⟨b, o, none⟩) n vc), (80, .int .i64 n), (81, .int .i64 i), (100, .slice at7 x.tgts.length ct), (101, .int .i64 x.tgts.length), (102, .int .i64 j)] ∧ hc = hc4) ?_ ?_
    · simp (disch := first | omega | assumption) only [C.law2_apart_gos, vs, Go.Vc.vk, T.ts, ↓reduceIte, Nat.reduceEqDiff, reduceCtorEq, Nat.reduceLeDiff, Nat.reducePow, Int.reducePow, Int.reduceToNat, Nat.reduceAdd]
      exact ⟨_, 0, rfl, Nat.zero_le _, rfl⟩
    clear hj hjg hjl'
    rintro m ρ hc5 ⟨j, rfl, hj, rfl, rfl⟩
    rcases Nat.lt_or_ge j x.tgts.length with hjl | hjg
    case inl =>
      have hjl' : (j : Int) < x.tgts.length := by omega
      obtain ⟨kb, kc, hes, k0, _, _⟩ := Own.at0 ot3 hjl
      cases hes
      have hz := hmk.2 (x.tgts.getD j 0) (getD_mem hjl)
      have k1 : cellAt hc5 ⟨kb, j, none⟩ = some (.int .i64 (2 * (i : Int) + 1000001)) := by
        rw [k0, ← hz]; simp [intsV, hjl]
      simp (disch := first | omega | assumption) only [C.law2_apart_gos, vs, Go.Vc.vk, T.ts, ↓reduceIte, Nat.reduceEqDiff, reduceCtorEq, Nat.reduceLeDiff, Nat.reducePow, Int.reducePow, Int.reduceToNat, Nat.reduceAdd, hjl', k1]
      exact ⟨_, by omega, j + 1, rfl, by omega, by simp⟩
    have hjl' : ¬ (j : Int) < x.tgts.length := by omega
    simp (disch := first | omega | assumption) only [C.law2_apart_gos, vs, Go.Vc.vk, T.ts, ↓reduceIte, Nat.reduceEqDiff, reduceCtorEq, Nat.reduceLeDiff, Nat.reducePow, Int.reducePow, Int.reduceToNat, Nat.reduceAdd, hjl']
    exact ⟨_, by omega, i + 1, rfl, by omega, by simp, F3, W3⟩
  have hlt' : (i : Int) < n := by omega
  have hix : i < xs.length := by omega
  obtain ⟨b, o, c, vk, vt, heq, hrd, hrow, ok, ot, dj⟩ := W.at hix
  rw [hxl] at heq
  cases heq
  obtain ⟨ak, ck, rfl, _⟩ := ok.slN.2
  have c6 : cellAt hc ⟨b, o + i * 8 + 6, none⟩ = some (.slice ak (xs.getD i in0).keys.length ck) := hrd 6 _ rfl
  obtain ⟨N, hN⟩ : ∃ N, N = (xs.getD i in0).keys.length := ⟨_, rfl⟩
  have hNle := Own_le ok
  rw [← hN] at c6 hNle
  simp (disch := first | omega | assumption) only [C.law2_apart_gos, vs, Go.Vc.vk, T.ts, ↓reduceIte, Nat.reduceEqDiff, reduceCtorEq, Nat.reduceLeDiff, Nat.reducePow, Int.reducePow, Int.reduceToNat, Nat.reduceAdd, hlt', c6]
  refine loop_intro [0, 3, 14, 15, 23, 24] (fun m ρ hc => ∃ (p : Nat) (xs : List In), m = N - p ∧ p ≤ N ∧ xs.length = n ∧ (xs.getD i in0).keys.length = N ∧ ρ = [(0, .slice (some ⟨b, o, none⟩) n vc), (3, .int .i64 i), (14, .int .i64 n), (15, .int .i64 i), (23, .int .i64 N), (24, .int .i64 p)] ∧ Fr (fun b => base ≤ b) h hc ∧ InsW hc base (.slice (some ⟨b, o, none⟩) n vc) rows xs ∧ LB xs ∧ (∀ j, j < i → Mk j (xs.getD j in0)) ∧ ∀ q, q < p → (xs.getD i in0).keys.getD q 0 = 2 * (i : Int) + 1000000) ?_ ?_
  · simp (disch := first | omega | assumption) only [C.law2_apart_gos, vs, Go.Vc.vk, T.ts, ↓reduceIte, Nat.reduceEqDiff, reduceCtorEq, Nat.reduceLeDiff, Nat.reducePow, Int.reducePow, Int.reduceToNat, Nat.reduceAdd]
    exact ⟨_, 0, xs, rfl, Nat.zero_le _, hxl, hN.symm, rfl, F, W, hL, hM, fun q hq => by omega⟩
  clear F W hM hL hxl hN hrd hrow ok ot dj c6 hix
  rintro m ρ hc1 ⟨p, xs, rfl, hp, hxl, hN, rfl, F, W, hL, hM, hP⟩
  have hix : i < xs.length := by omega
  rcases Nat.lt_or_ge p N with hpl | hpg
  case inl =>
    have hpl' : (p : Int) < N := by omega
    obtain ⟨b2, o2, c2, vk, vt, heq, hrd, hrow, ok, ot, dj⟩ := W.at hix
    rw [hxl] at heq
    cases heq
    rw [hN] at ok
    obtain ⟨kb, kc, rfl, k0, kf, kset⟩ := Own.at0 ok hpl
    have c6 : cellAt hc1 ⟨b, o + i * 8 + 6, none⟩ = some (.slice (some ⟨kb, 0, none⟩) N kc) := hrd 6 _ rfl
    simp (disch := first | omega | assumption) only [C.law2_apart_gos, vs, Go.Vc.vk, T.ts, ↓reduceIte, Nat.reduceEqDiff, reduceCtorEq, Nat.reduceLeDiff, Nat.reducePow, Int.reducePow, Int.reduceToNat, Nat.reduceAdd, hpl', hlt', c6]
    refine eff_store1_z T.zr_3 rfl rfl rfl rfl rfl k0 kf ?_
    have hset := kset (.int .i64 (2 * (i : Int) + 1000000))
    have f1 : Fr (fun k => k = kb) hc1 (setAt hc1 ⟨kb, p, none⟩ (.int .i64 (2 * (i : Int) + 1000000))) := Fr.set (S := fun k => k = kb) _ _ _ fun _ => rfl
    have hkb := (ok.lt kb rfl).1
    have hin2 : InP (setAt hc1 ⟨kb, p, none⟩ (.int .i64 (2 * (i : Int) + 1000000))) base { xs.getD i in0 with keys := (xs.getD i in0).keys.set p (2 * (i : Int) + 1000000) } (rows.getD i []) := by
      refine ⟨.slice (some ⟨kb, 0, none⟩) N kc, vt, hrow, Own_cast hset (by rw [List.length_set, hN]) (by simp [intsV]), ot.fr f1 (fun k hk hs => by subst hs; exact dj k rfl hk), dj⟩
    have W2 := W.upd hix f1 (fun b hb => by subst hb; rw [hrow]; exact Or.inl rfl) hin2
    have F2 := Fr.trans F f1 (fun _ _ h => h) (fun k _ hs => by omega)
    generalize setAt hc1 ⟨kb, p, none⟩ (.int .i64 (2 * (i : Int) + 1000000)) = hc2 at *
    simp (disch := first | omega | assumption) only [C.law2_apart_gos, vs, Go.Vc.vk, T.ts, ↓reduceIte, Nat.reduceEqDiff, reduceCtorEq, Nat.reduceLeDiff, Nat.reducePow, Int.reducePow, Int.reduceToNat, Nat.reduceAdd]
    refine ⟨_, by omega, p + 1, xs.set i { xs.getD i in0 with keys := (xs.getD i in0).keys.set p (2 * (i : Int) + 1000000) }, rfl, by omega, by simp [hxl], ?_, by simp, F2, W2, hL.set (by have := hL _ (getD_mem (d := in0) hix); simpa using this), ?_, ?_⟩
    · rw [getD_set hix, if_pos rfl]; show (List.set _ _ _).length = _; rw [List.length_set, hN]
    · intro j hj
      rw [getD_set hix, if_neg (by omega)]; exact hM j hj
    · rw [getD_set hix, if_pos rfl]
      exact set_all (by omega) hP
  have hpl' : ¬ (p : Int) < N := by omega
  have hKall : ∀ z ∈ (xs.getD i in0).keys, z = 2 * (i : Int) + 1000000 := all_mem fun q hq => hP q (by omega)
  obtain ⟨b2, o2, c2, vk, vt, heq, hrd, hrow, ok, ot, dj⟩ := W.at hix
  rw [hxl] at heq
  cases heq
  obtain ⟨at7, ct, rfl, _⟩ := ot.slN.2
  have c7 : cellAt hc1 ⟨b, o + i * 8 + 7, none⟩ = some (.slice at7 (xs.getD i in0).tgts.length ct) := hrd 7 _ rfl
  obtain ⟨M, hMl⟩ : ∃ M, M = (xs.getD i in0).tgts.length := ⟨_, rfl⟩
  have hMle := Own_le ot
  rw [← hMl] at c7 hMle
  simp (disch := first | omega | assumption) only [C.law2_apart_gos, vs, Go.Vc.vk, T.ts, ↓reduceIte, Nat.reduceEqDiff, reduceCtorEq, Nat.reduceLeDiff, Nat.reducePow, Int.reducePow, Int.reduceToNat, Nat.reduceAdd, hpl', hlt', c7]
  refine loop_intro [0, 3, 14, 15, 43, 44] (fun m ρ hc => ∃ (p : Nat) (xs : List In), m = M - p ∧ p ≤ M ∧ xs.length = n ∧ (xs.getD i in0).tgts.length = M ∧ ρ = [(0, .slice (some ⟨b, o, none⟩) n vc), (3, .int .i64 i), (14, .int .i64 n), (15, .int .i64 i), (43, .int .i64 M), (44, .int .i64 p)] ∧ Fr (fun b => base ≤ b) h hc ∧ InsW hc base (.slice (some ⟨b, o, none⟩) n vc) rows xs ∧ LB xs ∧ (∀ j, j < i → Mk j (xs.getD j in0)) ∧ (∀ z ∈ (xs.getD i in0).keys, z = 2 * (i : Int) + 1000000) ∧ ∀ q, q < p → (xs.getD i in0).tgts.getD q 0 = 2 * (i : Int) + 1000001) ?_ ?_
  · simp (disch := first | omega | assumption) only [C.law2_apart_gos, vs, Go.Vc.vk, T.ts, ↓reduceIte, Nat.reduceEqDiff, reduceCtorEq, Nat.reduceLeDiff, Nat.reducePow, Int.reducePow, Int.reduceToNat, Nat.reduceAdd]
    exact ⟨_, 0, xs, rfl, Nat.zero_le _, hxl, hMl.symm, rfl, F, W, hL, hM, hKall, fun q hq => by omega⟩
  clear F W hM hL hxl hMl hrd hrow ok ot dj c7 hix hN hP hpl' hKall
  rintro m ρ hc1 ⟨p, xs, rfl, hp, hxl, hN, rfl, F, W, hL, hM, hKall, hP⟩
  have hix : i < xs.length := by omega
  rcases Nat.lt_or_ge p M with hpl | hpg
  case inl =>
    have hpl' : (p : Int) < M := by omega
    obtain ⟨b2, o2, c2, vk, vt, heq, hrd, hrow, ok, ot, dj⟩ := W.at hix
    rw [hxl] at heq
    cases heq
    rw [hN] at ot
    obtain ⟨kb, kc, rfl, k0, kf, kset⟩ := Own.at0 ot hpl
    have c7 : cellAt hc1 ⟨b, o + i * 8 + 7, none⟩ = some (.slice (some ⟨kb, 0, none⟩) M kc) := hrd 7 _ rfl
    simp (disch := first | omega | assumption) only [C.law2_apart_gos, vs, Go.Vc.vk, T.ts, ↓reduceIte, Nat.reduceEqDiff, reduceCtorEq, Nat.reduceLeDiff, Nat.reducePow, Int.reducePow, Int.reduceToNat, Nat.reduceAdd, hpl', hlt', c7]
    refine eff_store1_z T.zr_3 rfl rfl rfl rfl rfl k0 kf ?_
    have hset := kset (.int .i64 (2 * (i : Int) + 1000001))
    have f1 : Fr (fun k => k = kb) hc1 (setAt hc1 ⟨kb, p, none⟩ (.int .i64 (2 * (i : Int) + 1000001))) := Fr.set (S := fun k => k = kb) _ _ _ fun _ => rfl
    have hkb := (ot.lt kb rfl).1
    have hin2 : InP (setAt hc1 ⟨kb, p, none⟩ (.int .i64 (2 * (i : Int) + 1000001))) base { xs.getD i in0 with tgts := (xs.getD i in0).tgts.set p (2 * (i : Int) + 1000001) } (rows.getD i []) := by
      refine ⟨vk, .slice (some ⟨kb, 0, none⟩) M kc, hrow, ok.fr f1 (fun k hk hs => by subst hs; exact dj k hk rfl), Own_cast hset (by rw [List.length_set, hN]) (by simp [intsV]), dj⟩
    have W2 := W.upd hix f1 (fun b hb => by subst hb; rw [hrow]; exact Or.inr rfl) hin2
    have F2 := Fr.trans F f1 (fun _ _ h => h) (fun k _ hs => by omega)
    generalize setAt hc1 ⟨kb, p, none⟩ (.int .i64 (2 * (i : Int) + 1000001)) = hc2 at *
    simp (disch := first | omega | assumption) only [C.law2_apart_gos, vs, Go.Vc.vk, T.ts, ↓reduceIte, Nat.reduceEqDiff, reduceCtorEq, Nat.reduceLeDiff, Nat.reducePow, Int.reducePow, Int.reduceToNat, Nat.reduceAdd]
    refine ⟨_, by omega, p + 1, xs.set i { xs.getD i in0 with tgts := (xs.getD i in0).tgts.set p (2 * (i : Int) + 1000001) }, rfl, by omega, by simp [hxl], ?_, by simp, F2, W2, hL.set (by have := hL _ (getD_mem (d := in0) hix); simpa using this), ?_, ?_, ?_⟩
    · rw [getD_set hix, if_pos rfl]; show (List.set _ _ _).length = _; rw [List.length_set, hN]
    · intro j hj
      rw [getD_set hix, if_neg (by omega)]; exact hM j hj
    · rw [getD_set hix, if_pos rfl]; exact hKall
    · rw [getD_set hix, if_pos rfl]
      exact set_all (by omega) hP
  have hpl' : ¬ (p : Int) < M := by omega
  have hTall : ∀ z ∈ (xs.getD i in0).tgts, z = 2 * (i : Int) + 1000001 := all_mem fun q hq => hP q (by omega)
  simp (disch := first | omega | assumption) only [C.law2_apart_gos, vs, Go.Vc.vk, T.ts, ↓reduceIte, Nat.reduceEqDiff, reduceCtorEq, Nat.reduceLeDiff, Nat.reducePow, Int.reducePow, Int.reduceToNat, Nat.reduceAdd, hpl']
  refine ⟨_, by omega, i + 1, xs, rfl, by omega, hxl, by simp, F, W, hL, ?_⟩
  intro j hj
  rcases Nat.lt_or_ge j i with hji | hji
  · exact hM j hji
  · have : j = i := by omega
    subst this; exact ⟨hKall, hTall⟩
end
end Go.Proofs.Ytjpcpkhegjndeaa

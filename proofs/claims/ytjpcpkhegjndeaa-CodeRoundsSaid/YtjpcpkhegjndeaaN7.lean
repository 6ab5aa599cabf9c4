/- The encoder of instructions: all of them. -/
import Derived.Test.YtjpcpkhegjndeaaN6
import Derived.Test.YtjpcpkhegjndeaaN4
import Derived.Test.YtjpcpkhegjndeaaVcN
namespace Go.Proofs.Ytjpcpkhegjndeaa
open Go.Vc
set_option maxRecDepth 100000
set_option linter.unusedSimpArgs false
set_option linter.unusedVariables false

/-- What the encoder gives: bytes, the error, and where. -/
abbrev ER := List UInt8 × Nat × Nat
def erV (r : ER) : Value := .tuple #[str r.1, .int .i64 (r.2.1 : Int), .int .i64 (r.2.2 : Int)]
def badF (x : In) : Prop := formS x.op = 1 ∨ formS x.op = 15 ∨ (x.wide = true ∧ formS x.op ≠ 6 ∧ formS x.op ≠ 7)
instance (x : In) : Decidable (badF x) := by unfold badF; infer_instance
def tgtR (ats : List Int) : List In → Nat → Option Nat
  | [], _ => none
  | x :: r, k => if x.tgts.all (fun t => ats.contains t) = true then tgtR ats r (k + 1) else some k
def endR (l : List In) (b : List UInt8) : ER :=
  if l.length = 0 then ([], 12, 0)
  else match tgtR (l.map In.at') l 0 with
    | some k => ([], 16, k)
    | none => (b, 0, 0)
def encR (all : List In) : List In → Nat → List UInt8 → ER
  | [], _, b => endR all b
  | x :: r, k, b =>
    if x.at' ≠ b.length then ([], 16, k)
    else if badF x then ([], 14, k)
    else if (oneE x (formS x.op) (b, true)).2 = false then ([], 15, k)
    else if 65535 < (oneE x (formS x.op) (b, true)).1.length then ([], 12, k)
    else encR all r (k + 1) (oneE x (formS x.op) (b, true)).1
theorem encR_step {all l : List In} {i : Nat} (hi : i < l.length) {b : List UInt8} : encR all (l.drop i) i b = (
    let x := l.getD i in0
    if x.at' ≠ b.length then ([], 16, i)
    else if badF x then ([], 14, i)
    else if (oneE x (formS x.op) (b, true)).2 = false then ([], 15, i)
    else if 65535 < (oneE x (formS x.op) (b, true)).1.length then ([], 12, i)
    else encR all (l.drop (i + 1)) (i + 1) (oneE x (formS x.op) (b, true)).1) := by
  have : l.drop i = l.getD i in0 :: l.drop (i + 1) := by rw [List.drop_eq_getElem_cons hi]; simp [hi]
  rw [this, encR]
theorem choE_len (x : In) (f : Nat) (s : ES) : (choE x f s).1.length ≤ s.1.length + 16 + 8 * x.tgts.length := by
  have hp := padS_len s.1
  unfold choE
  split
  · simp only; omega
  · refine Nat.le_trans (rowE_len f x.keys x.at' _ _ _) ?_
    have hd : (x.tgts.drop 1).length ≤ x.tgts.length := by simp
    split <;> simp only [sgnS, putS_len] <;> omega
theorem sizeE_le (x : In) : sizeE x ≤ 2 := by unfold sizeE; split <;> omega
theorem oneE_len (x : In) (f : Nat) (s : ES) : (oneE x f s).1.length ≤ s.1.length + 24 + 8 * x.tgts.length := by
  have h1 : (headE x s).1.length ≤ s.1.length + 2 := by
    unfold headE
    split <;> simp
  have h2 := sizeE_le x
  have h3 := choE_len x 10 (headE x s)
  have h4 := choE_len x 11 (headE x s)
  have hj : ∀ n, n ≤ 4 → (jmpE x (headE x s) n).1.length ≤ s.1.length + 24 + 8 * x.tgts.length := by
    intro n hn
    unfold jmpE
    split
    · simp only [sgnS, putS_len, tgtS]; omega
    · simp only [tgtS]; omega
  have hj2 := hj 2 (by omega)
  have hj4 := hj 4 (by omega)
  have hl : ∀ (c : Prop) [Decidable c] (y z : ES), y.1.length ≤ s.1.length + 24 + 8 * x.tgts.length → z.1.length ≤ s.1.length + 24 + 8 * x.tgts.length → (if c then y else z).1.length ≤ s.1.length + 24 + 8 * x.tgts.length := by
    intro c _ y z hy hz
    split <;> assumption
  unfold oneE
  simp only
  generalize headE x s = hd at *
  refine hl _ _ _ ?_ (hl _ _ _ ?_ (hl _ _ _ ?_ (hl _ _ _ ?_ (hl _ _ _ ?_ (hl _ _ _ ?_ (hl _ _ _ ?_ (hl _ _ _ ?_ (hl _ _ _ ?_ (hl _ _ _ ?_ (hl _ _ _ ?_ (hl _ _ _ ?_ (hl _ _ _ ?_ ?_))))))))))))
  all_goals first
    | (simp only [sgnS, unsS, putX, putS_len, tgtS, List.length_append, List.length_cons, List.length_nil]; omega)
    | omega
    | assumption
def kI : Int → Value := fun a => .int .i64 a
theorem kI_key (a : Int) : Go.MapKept.IsKey (.int .i64) (kI a) := rfl
theorem kI_inj (a a' : Int) (h : kI a = kI a') : a = a' := by cases h; rfl
theorem mp_ii : mpT Try.prog 40 (.int .i64) (.int .i64 0) := ⟨_, _, _, rfl, rfl, rfl, rfl⟩
theorem MapO.keepB {κ : Type} {mk : κ → Value} {h h' : Heap} {b g : Nat} {F : κ → Option Value} (H : MapO mk h b F) (K : KeepB h h' g) : MapO mk h' b F := by
  obtain ⟨es, c, h1, h2⟩ := H
  exact ⟨es, c, K.2.2 _ _ _ h1, h2⟩
/-- The places where instructions begin. -/
def Beg (F : Int → Option Value) (l : List In) : Prop := ∀ a, (F a).isSome = true ↔ a ∈ l.map In.at'
theorem Beg.contains {F : Int → Option Value} {l : List In} (H : Beg F l) (t : Int) : (F t).isSome = (l.map In.at').contains t := by
  have := H t
  by_cases hm : t ∈ l.map In.at'
  · rw [this.2 hm]; simpa using hm
  · have h1 : (F t).isSome = false := by
      cases hb : (F t).isSome with
      | false => rfl
      | true => exact absurd (this.1 hb) hm
    rw [h1]; symm
    simpa using hm

set_option maxHeartbeats 4000000 in
theorem encode_any (l : List In) (v : Value) (h : Heap) (hl : InsC h v l) (hlf : ∀ x ∈ l, x.Fit) (hll : l.length ≤ 1073741824) (hLl : ∀ x ∈ l, x.keys.length ≤ 1073741824 ∧ x.tgts.length ≤ 1073741824) :
    HCalls Try.prog 8 #[v] h fun r h' => Ext h h' ∧ r = erV (encR l l 0 []) := by
  refine C.code_Encode_calls (args := [v]) rfl ?_
  have hl2 := hl
  obtain ⟨rows, hr1, hr2, hr3⟩ := hl2
  obtain ⟨_, a, c, rfl, _⟩ := hr2
  generalize hX : encR l l 0 [] = X
  simp (disch := first | omega | assumption) only [C.code_Encode_gos, vs, Go.Vc.vk, T.ts, ↓reduceIte, Nat.reduceEqDiff, reduceCtorEq, Nat.reduceLeDiff, Nat.reducePow, Int.reducePow, Int.reduceToNat, Nat.reduceAdd]
  refine eff_box ?_
  simp (disch := first | omega | assumption) only [C.code_Encode_gos, vs, Go.Vc.vk, T.ts, ↓reduceIte, Nat.reduceEqDiff, reduceCtorEq, Nat.reduceLeDiff, Nat.reducePow, Int.reducePow, Int.reduceToNat, Nat.reduceAdd]
  have H0 : En h (h.push (.cells #[.slice none 0 0, .bool true] 39)) h.size [] true :=
    ⟨Nat.le_refl _, Ext.push _ _, .slice none 0 0, by simp, Own.nil⟩
  have hs1 : (h.push (.cells #[.slice none 0 0, .bool true] 39)).size = h.size + 1 := by simp
  generalize h.push (.cells #[.slice none 0 0, .bool true] 39) = h1 at *
  refine eff_makemap ?_
  have H1 := H0.ext (Ext.push h1 (.map #[] 0))
  have M1 : MapO kI (h1.push (.map #[] 0)) h1.size (fun _ => none) := MapO.new
  obtain ⟨g, hg⟩ : ∃ x, x = h.size := ⟨_, rfl⟩
  rw [hs1, ← hg]
  rw [← hg] at H1
  obtain ⟨gm, hgm⟩ : ∃ x, x = g + 1 := ⟨_, rfl⟩
  rw [← hgm]
  rw [hs1, ← hg, ← hgm] at M1
  have hmg : gm ≠ g := by omega
  have hmh : h.size ≤ gm := by omega
  simp (disch := first | omega | assumption) only [C.code_Encode_gos, vs, Go.Vc.vk, T.ts, ↓reduceIte, Nat.reduceEqDiff, reduceCtorEq, Nat.reduceLeDiff, Nat.reducePow, Int.reducePow, Int.reduceToNat, Nat.reduceAdd]
  generalize h1.push (.map #[] 0) = h2 at *
  clear H0 hs1
  refine loop_intro [0, 2, 3, 4, 5, 6, 19, 20, 21] (fun m ρ hc => ∃ (i : Nat) (b : List UInt8) (F : Int → Option Value), m = l.length - i ∧ i ≤ l.length ∧
      ρ = [(0, .slice a l.length c), (2, str []), (3, .int .i64 0), (4, .int .i64 0), (5, .pointer (some ⟨g, 0, none⟩)), (6, .map (some gm)), (19, .slice a l.length c), (20, .int .i64 l.length), (21, .int .i64 i)] ∧
      En h hc g b true ∧ MapO kI hc gm F ∧ Beg F (l.take i) ∧ b.length ≤ 65535 ∧ encR l (l.drop i) i b = X) ?_ ?_
  · simp (disch := first | omega | assumption) only [C.code_Encode_gos, vs, Go.Vc.vk, T.ts, ↓reduceIte, Nat.reduceEqDiff, reduceCtorEq, Nat.reduceLeDiff, Nat.reducePow, Int.reducePow, Int.reduceToNat, Nat.reduceAdd]
    exact ⟨_, 0, [], _, rfl, Nat.zero_le _, rfl, H1, M1, by intro a; simp, by simp, hX⟩
  rintro m ρ hc ⟨i, b, F, rfl, hi, rfl, HE, HM, HB, hb, hR⟩
  rcases Nat.lt_or_ge i l.length with hlt | hge
  case inr =>
    have hlt' : ¬ (i : Int) < l.length := by omega
    have hd : l.drop i = [] := by rw [List.drop_eq_nil_iff]; omega
    rw [hd, encR] at hR
    have htk : l.take i = l := List.take_of_length_le hge
    rw [htk] at HB
    unfold endR at hR
    by_cases hz : l.length = 0
    · have hz' : (l.length : Int) = 0 := by omega
      rw [if_pos hz] at hR
      subst hR
      simp (disch := first | omega | assumption) only [C.code_Encode_gos, vs, Go.Vc.vk, T.ts, ↓reduceIte, Nat.reduceEqDiff, reduceCtorEq, Nat.reduceLeDiff, Nat.reducePow, Int.reducePow, Int.reduceToNat, Nat.reduceAdd, hlt', eq_true hz']
      exact ⟨HE.2.1, rfl⟩
    rw [if_neg hz] at hR
    have hz' : ¬ (l.length : Int) = 0 := by omega
    simp (disch := first | omega | assumption) only [C.code_Encode_gos, vs, Go.Vc.vk, T.ts, ↓reduceIte, Nat.reduceEqDiff, reduceCtorEq, Nat.reduceLeDiff, Nat.reducePow, Int.reducePow, Int.reduceToNat, Nat.reduceAdd, hlt', eq_false hz']
    refine loop_intro [0, 2, 3, 4, 5, 6, 82, 83, 84] (fun m ρ hc => ∃ (i : Nat), m = l.length - i ∧ i ≤ l.length ∧
      ρ = [(0, .slice a l.length c), (2, str []), (3, .int .i64 0), (4, .int .i64 0), (5, .pointer (some ⟨g, 0, none⟩)), (6, .map (some gm)), (82, .slice a l.length c), (83, .int .i64 l.length), (84, .int .i64 i)] ∧
      En h hc g b true ∧ MapO kI hc gm F ∧ (match tgtR (l.map In.at') (l.drop i) i with
        | some k => ([], 16, k)
        | none => (b, 0, 0)) = X) ?_ ?_
    · simp (disch := first | omega | assumption) only [C.code_Encode_gos, vs, Go.Vc.vk, T.ts, ↓reduceIte, Nat.reduceEqDiff, reduceCtorEq, Nat.reduceLeDiff, Nat.reducePow, Int.reducePow, Int.reduceToNat, Nat.reduceAdd]
      exact ⟨_, 0, rfl, Nat.zero_le _, rfl, HE, HM, hR⟩
    rintro m ρ hc ⟨i, rfl, hi, rfl, HE, HM, hR⟩
    rcases Nat.lt_or_ge i l.length with hlt | hge
    case inr =>
      have hlt' : ¬ (i : Int) < l.length := by omega
      have hd : l.drop i = [] := by rw [List.drop_eq_nil_iff]; omega
      rw [hd, tgtR] at hR
      have hX2 : X = (b, 0, 0) := hR.symm
      subst hX2
      obtain ⟨_, hx, vb, hblk, own⟩ := HE
      have c0 : cellAt hc ⟨g, 0, none⟩ = some vb := by rw [cellAt_of hblk]; rfl
      simp (disch := first | omega | assumption) only [C.code_Encode_gos, vs, Go.Vc.vk, T.ts, ↓reduceIte, Nat.reduceEqDiff, reduceCtorEq, Nat.reduceLeDiff, Nat.reducePow, Int.reducePow, Int.reduceToNat, Nat.reduceAdd, hlt', c0, T.cvo_37_9 own]
      exact ⟨hx, rfl⟩
    have hlt' : (i : Int) < l.length := by omega
    rw [drop_getD (d := in0) hlt, tgtR] at hR
    obtain ⟨rb, ro, rc, vk, vt, heq, hrd0, sk, ck, st, ct⟩ := hl.at hlt
    cases heq
    have hll2 := hLl (l.getD i in0) (getD_mem hlt)
    generalize l.getD i in0 = x at *
    have hx := HE.2.1
    have hrd : Rd hc rb (ro + i * 8) (InV x vk vt) := hx.rd hrd0 (hrd0.lt (by simp [InV])) id
    have sk' := sk
    have st' := st
    obtain ⟨_, ak, kk, rfl, _⟩ := sk'
    obtain ⟨_, at7, kt, rfl, _⟩ := st'
    have hld := ld_agg T.ag_35 hrd rfl
    simp only [InV] at hld
    simp (disch := first | omega | assumption) only [C.code_Encode_gos, vs, Go.Vc.vk, T.ts, ↓reduceIte, Nat.reduceEqDiff, reduceCtorEq, Nat.reduceLeDiff, Nat.reducePow, Int.reducePow, Int.reduceToNat, Nat.reduceAdd, hlt', hld]
    refine eff_alloc_z T.zr_35 ?_
    simp (disch := first | omega | assumption) only [C.code_Encode_gos, vs, Go.Vc.vk, T.ts, ↓reduceIte, Nat.reduceEqDiff, reduceCtorEq, Nat.reduceLeDiff, Nat.reducePow, Int.reducePow, Int.reduceToNat, Nat.reduceAdd]
    refine eff_store_new_z T.zr_35 rfl rfl rfl (by simp [Value.cells, oneCell]) rfl ?_
    intro h3 x3 hlt3 hrd3 b3
    have c7 : cellAt h3 ⟨hc.size, 7, none⟩ = some (.slice at7 x.tgts.length kt) := hrd3 7 _ rfl
    have HE3 := HE.ext x3
    have HM3 := HM.fr x3 id
    clear hld hrd hrd3 b3
    generalize hc.size = q at *
    simp (disch := first | omega | assumption) only [C.code_Encode_gos, vs, Go.Vc.vk, T.ts, ↓reduceIte, Nat.reduceEqDiff, reduceCtorEq, Nat.reduceLeDiff, Nat.reducePow, Int.reducePow, Int.reduceToNat, Nat.reduceAdd, c7]
    refine loop_intro [0, 2, 3, 4, 5, 6, 10, 82, 83, 84, 90, 91, 92] (fun m ρ hc => ∃ (j : Nat), m = x.tgts.length - j ∧ j ≤ x.tgts.length ∧
      ρ = [(0, .slice (some ⟨rb, ro, none⟩) l.length c), (2, str []), (3, .int .i64 0), (4, .int .i64 0), (5, .pointer (some ⟨g, 0, none⟩)), (6, .map (some gm)), (10, .int .i64 i), (82, .slice (some ⟨rb, ro, none⟩) l.length c), (83, .int .i64 l.length), (84, .int .i64 i), (90, .slice at7 x.tgts.length kt), (91, .int .i64 x.tgts.length), (92, .int .i64 j)] ∧
      En h hc g b true ∧ MapO kI hc gm F ∧ (x.tgts.take j).all (fun t => (l.map In.at').contains t) = true) ?_ ?_
    · simp (disch := first | omega | assumption) only [C.code_Encode_gos, vs, Go.Vc.vk, T.ts, ↓reduceIte, Nat.reduceEqDiff, reduceCtorEq, Nat.reduceLeDiff, Nat.reducePow, Int.reducePow, Int.reduceToNat, Nat.reduceAdd]
      exact ⟨_, 0, rfl, Nat.zero_le _, rfl, HE3, HM3, by simp⟩
    rintro m ρ hc2 ⟨j, rfl, hj, rfl, HE4, HM4, hA⟩
    rcases Nat.lt_or_ge j x.tgts.length with hjl | hjg
    case inr =>
      have hlt2 : ¬ (j : Int) < x.tgts.length := by omega
      rw [List.take_of_length_le hjg] at hA
      rw [if_pos hA] at hR
      simp (disch := first | omega | assumption) only [C.code_Encode_gos, vs, Go.Vc.vk, T.ts, ↓reduceIte, Nat.reduceEqDiff, reduceCtorEq, Nat.reduceLeDiff, Nat.reducePow, Int.reducePow, Int.reduceToNat, Nat.reduceAdd, hlt2]
      exact ⟨_, by omega, i + 1, rfl, by omega, by simp, HE4, HM4, hR⟩
    have hlt2 : (j : Int) < x.tgts.length := by omega
    obtain ⟨tb, to, tc, heqt, hcs, _⟩ := (st.ext (by decide) HE4.2.1).at hjl
    cases heqt
    have t0 : cellAt hc2 ⟨tb, to + j, none⟩ = some (.int .i64 (x.tgts.getD j 0)) := by
      have := hcs 0 (.int .i64 (x.tgts.getD j 0)) (by simp [intsV, hjl])
      simpa using this
    have hlk := lk_map mp_ii kI_key HM4 (x.tgts.getD j 0) true
    simp only [if_true] at hlk
    change lkE _ _ _ (.int .i64 (x.tgts.getD j 0)) _ _ = _ at hlk
    rw [HB.contains] at hlk
    have htk := take_getD (d := 0) hjl
    by_cases hin : (l.map In.at').contains (x.tgts.getD j 0) = true
    · rw [hin] at hlk
      simp (disch := first | omega | assumption) only [C.code_Encode_gos, vs, Go.Vc.vk, T.ts, ↓reduceIte, Nat.reduceEqDiff, reduceCtorEq, Nat.reduceLeDiff, Nat.reducePow, Int.reducePow, Int.reduceToNat, Nat.reduceAdd, hlt2, t0, hlk]
      exact ⟨_, by omega, j + 1, rfl, by omega, by simp, HE4, HM4, by rw [htk, List.all_append, hA]; simpa using hin⟩
    · have hnall : ¬ x.tgts.all (fun t => (l.map In.at').contains t) = true := by
        intro hall
        rw [List.all_eq_true] at hall
        exact hin (hall _ (getD_mem hjl))
      rw [if_neg hnall] at hR
      have hX2 : X = ([], 16, i) := hR.symm
      subst hX2
      simp only [Bool.not_eq_true] at hin
      rw [hin] at hlk
      simp (disch := first | omega | assumption) only [C.code_Encode_gos, vs, Go.Vc.vk, T.ts, ↓reduceIte, Nat.reduceEqDiff, reduceCtorEq, Nat.reduceLeDiff, Nat.reducePow, Int.reducePow, Int.reduceToNat, Nat.reduceAdd, hlt2, t0, hlk]
      exact ⟨HE4.2.1, rfl⟩
  have hlt' : (i : Int) < l.length := by omega
  rw [encR_step hlt] at hR
  simp only at hR
  obtain ⟨rb, ro, rc, vk, vt, heq, hrd0, sk, ck, st, ct⟩ := hl.at hlt
  cases heq
  have hfit : (l.getD i in0).Fit := hlf _ (getD_mem hlt)
  have hll2 := hLl (l.getD i in0) (getD_mem hlt)
  have htk := take_getD (d := in0) hlt
  generalize l.getD i in0 = x at *
  have hx := HE.2.1
  have hrd : Rd hc rb (ro + i * 8) (InV x vk vt) := hx.rd hrd0 (hrd0.lt (by simp [InV])) id
  have sk' := sk
  have st' := st
  obtain ⟨_, ak, kk, rfl, _⟩ := sk'
  obtain ⟨_, at7, kt, rfl, _⟩ := st'
  have hld := ld_agg T.ag_35 hrd rfl
  simp only [InV] at hld
  simp (disch := first | omega | assumption) only [C.code_Encode_gos, vs, Go.Vc.vk, T.ts, ↓reduceIte, Nat.reduceEqDiff, reduceCtorEq, Nat.reduceLeDiff, Nat.reducePow, Int.reducePow, Int.reduceToNat, Nat.reduceAdd, hlt', hld]
  refine eff_alloc_z T.zr_35 ?_
  simp (disch := first | omega | assumption) only [C.code_Encode_gos, vs, Go.Vc.vk, T.ts, ↓reduceIte, Nat.reduceEqDiff, reduceCtorEq, Nat.reduceLeDiff, Nat.reducePow, Int.reducePow, Int.reduceToNat, Nat.reduceAdd]
  refine eff_store_new_z T.zr_35 rfl rfl rfl (by simp [Value.cells, oneCell]) rfl ?_
  intro h3 x3 hlt3 hrd3 b3
  have hld3 := ld_agg T.ag_35 hrd3 rfl
  change h3[hc.size]? = some (.cells #[.int .i64 x.at', .int .u8 (x.op : Int), .bool x.wide, .int .i64 x.A, .int .i64 x.B, .int .i64 x.low, .slice ak x.keys.length kk, .slice at7 x.tgts.length kt] 35 (0, 0)) at b3
  have c0 : cellAt h3 ⟨hc.size, 0, none⟩ = some (.int .i64 x.at') := hrd3 0 _ rfl
  have c1 : cellAt h3 ⟨hc.size, 1, none⟩ = some (.int .u8 (x.op : Int)) := hrd3 1 _ rfl
  have c2 : cellAt h3 ⟨hc.size, 2, none⟩ = some (.bool x.wide) := hrd3 2 _ rfl
  change ld _ _ ⟨hc.size, 0, none⟩ h3 = some (.agg #[.int .i64 x.at', .int .u8 (x.op : Int), .bool x.wide, .int .i64 x.A, .int .i64 x.B, .int .i64 x.low, .slice ak x.keys.length kk, .slice at7 x.tgts.length kt]) at hld3
  have HE3 := HE.ext x3
  have HM3 := HM.fr x3 id
  have hqg : hc.size ≠ g := by have := HE.lt; omega
  have hqm : hc.size ≠ gm := by have := HM.lt; omega
  clear hld hrd hrd3
  generalize hc.size = q at *
  obtain ⟨_, hx3, vb, hblk, own⟩ := id HE3
  obtain ⟨ab, cb, rfl, _⟩ := own.slN.2
  have e0 : cellAt h3 ⟨g, 0, none⟩ = some (.slice ab b.length cb) := by rw [cellAt_of hblk]; rfl
  by_cases hat : x.at' = b.length
  case neg =>
    rw [if_pos hat] at hR
    subst hR
    have hat2 : ¬ x.at' = ((b.length : Nat) : Int) := hat
    simp (disch := first | omega | assumption) only [C.code_Encode_gos, vs, Go.Vc.vk, T.ts, ↓reduceIte, Nat.reduceEqDiff, reduceCtorEq, Nat.reduceLeDiff, Nat.reducePow, Int.reducePow, Int.reduceToNat, Nat.reduceAdd, c0, e0, eq_false hat2]
    exact ⟨HE3.2.1, rfl⟩
  rw [if_neg (by simp [hat])] at hR
  simp (disch := first | omega | assumption) only [C.code_Encode_gos, vs, Go.Vc.vk, T.ts, ↓reduceIte, Nat.reduceEqDiff, reduceCtorEq, Nat.reduceLeDiff, Nat.reducePow, Int.reducePow, Int.reduceToNat, Nat.reduceAdd, c0, e0, eq_true hat]
  refine eff_mapset (K := _) mp_ii kI_key kI_inj (a := x.at') (b := gm) (F := F) rfl rfl rfl HM3 ?_
  intro h4 HM4 x4 hs4
  have HE4 : En h h4 g b true := by
    obtain ⟨k1, k2, vb', k3, k4⟩ := HE3
    refine ⟨k1, Fr.trans k2 x4 (fun _ _ h => h) (fun k hk hS => by omega), vb', Fr_blk x4 k3 (fun h => hmg h.symm), k4.fr x4 (fun k hk hS => ?_)⟩
    subst hS
    obtain ⟨es, cl, m1, _⟩ := HM3
    exact Own_nomap k4 m1 hk
  have b4 := Fr_blk x4 b3 hqm
  have HB4 : Beg (fun a' => if a' = x.at' then some (Value.int .i64 i) else F a') (l.take (i + 1)) := by
    intro a'
    rw [htk, List.map_append, List.mem_append]
    by_cases ha : a' = x.at'
    · simp [ha]
    · simp only [if_neg ha]
      rw [HB a']
      simp [ha]
  generalize (fun a' => if a' = x.at' then some (Value.int .i64 i) else F a') = F4 at *
  clear HM3 HE3 c0 c1 c2 e0 hblk own b3 HB hld3
  have facts : ∀ hh : Heap, hh[q]? = some (.cells #[.int .i64 x.at', .int .u8 (x.op : Int), .bool x.wide, .int .i64 x.A, .int .i64 x.B, .int .i64 x.low, .slice ak x.keys.length kk, .slice at7 x.tgts.length kt] 35 (0, 0)) → cellAt hh ⟨q, 1, none⟩ = some (.int .u8 (x.op : Int)) ∧ cellAt hh ⟨q, 2, none⟩ = some (.bool x.wide) ∧ ld Try.prog 35 ⟨q, 0, none⟩ hh = some (.agg #[.int .i64 x.at', .int .u8 (x.op : Int), .bool x.wide, .int .i64 x.A, .int .i64 x.B, .int .i64 x.low, .slice ak x.keys.length kk, .slice at7 x.tgts.length kt]) := by
    intro hh qk
    refine ⟨by rw [cellAt_of qk]; rfl, by rw [cellAt_of qk]; rfl, ?_⟩
    exact ld_agg T.ag_35 (vs := [.int .i64 x.at', .int .u8 (x.op : Int), .bool x.wide, .int .i64 x.A, .int .i64 x.B, .int .i64 x.low, .slice ak x.keys.length kk, .slice at7 x.tgts.length kt]) (fun j v hv => by rw [cellAt_of qk, Nat.zero_add]; simpa using hv) rfl
  have fx := facts h4 b4
  simp (disch := first | omega | assumption) only [C.code_Encode_gos, vs, Go.Vc.vk, T.ts, ↓reduceIte, Nat.reduceEqDiff, reduceCtorEq, Nat.reduceLeDiff, Nat.reducePow, Int.reducePow, Int.reduceToNat, Nat.reduceAdd, fx]
  refine eff_call_of ?_
  simp (disch := first | omega | assumption) only [C.code_Encode_gos, vs, Go.Vc.vk, T.ts, ↓reduceIte, Nat.reduceEqDiff, reduceCtorEq, Nat.reduceLeDiff, Nat.reducePow, Int.reducePow, Int.reduceToNat, Nat.reduceAdd]
  refine (form_any x.op hfit.op h4).mono ?_
  intro v5 h5 hp5
  have e5 := hp5.1
  subst e5
  have hv5 := hp5.2
  have hfl := formS_lt x.op hfit.op
  obtain ⟨f, hf⟩ : ∃ f, f = formS x.op := ⟨_, rfl⟩
  rw [← hf] at hv5 hR hfl
  by_cases hbad : badF x
  · rw [if_pos hbad] at hR
    subst hR
    unfold badF at hbad
    rw [← hf] at hbad
    by_cases g1 : f = 1
    · have g1' : (f : Int) = 1 := by omega
      simp (disch := first | omega | assumption) only [C.code_Encode_gos, vs, Go.Vc.vk, T.ts, ↓reduceIte, Nat.reduceEqDiff, reduceCtorEq, Nat.reduceLeDiff, Nat.reducePow, Int.reducePow, Int.reduceToNat, Nat.reduceAdd, hv5, fx, eq_true g1']
      exact ⟨HE4.2.1, rfl⟩
    have g1' : ¬ (f : Int) = 1 := by omega
    by_cases g2 : f = 15
    · have g2' : (f : Int) = 15 := by omega
      simp (disch := first | omega | assumption) only [C.code_Encode_gos, vs, Go.Vc.vk, T.ts, ↓reduceIte, Nat.reduceEqDiff, reduceCtorEq, Nat.reduceLeDiff, Nat.reducePow, Int.reducePow, Int.reduceToNat, Nat.reduceAdd, hv5, fx, eq_false g1', eq_true g2']
      exact ⟨HE4.2.1, rfl⟩
    have g2' : ¬ (f : Int) = 15 := by omega
    obtain ⟨gw, g3, g4⟩ : x.wide = true ∧ f ≠ 6 ∧ f ≠ 7 := by simpa [g1, g2] using hbad
    have g3' : ¬ (f : Int) = 6 := by omega
    have g4' : ¬ (f : Int) = 7 := by omega
    rw [gw] at fx
    simp (disch := first | omega | assumption) only [C.code_Encode_gos, vs, Go.Vc.vk, T.ts, ↓reduceIte, Nat.reduceEqDiff, reduceCtorEq, Nat.reduceLeDiff, Nat.reducePow, Int.reducePow, Int.reduceToNat, Nat.reduceAdd, hv5, fx, eq_false g1', eq_false g2', eq_false g3', eq_false g4']
    exact ⟨HE4.2.1, rfl⟩
  rw [if_neg hbad] at hR
  have hcall := one_any x f (b, true) (.slice ak x.keys.length kk) (.slice at7 x.tgts.length kt) (by
    have h1 : f ≠ 1 := fun he => hbad (Or.inl (hf ▸ he))
    have h2 : f ≠ 15 := fun he => hbad (Or.inr (Or.inl (hf ▸ he)))
    omega) hfit sk st ct hll2.1 hll2.2 (by simp only; omega) HE4
  simp only [enV, InV] at hcall
  have hgo : ¬ f = 1 ∧ ¬ f = 15 ∧ (x.wide = false ∨ f = 6 ∨ f = 7) := by
    unfold badF at hbad
    rw [← hf] at hbad
    refine ⟨fun h => hbad (Or.inl h), fun h => hbad (Or.inr (Or.inl h)), ?_⟩
    cases hw : x.wide with
    | false => exact Or.inl rfl
    | true =>
      refine Or.inr ?_
      by_cases q6 : f = 6
      · exact Or.inl q6
      · by_cases q7 : f = 7
        · exact Or.inr q7
        · exact absurd (Or.inr (Or.inr ⟨hw, q6, q7⟩)) hbad
  obtain ⟨g1, g2, g3⟩ := hgo
  have g1' : ¬ (f : Int) = 1 := by omega
  have g2' : ¬ (f : Int) = 15 := by omega
  have hbl : (oneE x f (b, true)).1.length ≤ 9000000000000000 := by
    have := oneE_len x f (b, true)
    simp only at this
    omega
  generalize hY : oneE x f (b, true) = Y at *
  clear hY
  obtain ⟨b6, ok6⟩ := Y
  simp only at hcall hR hbl
  have g5 : x.wide = false ∨ (x.wide = true ∧ ((f : Int) = 6 ∨ (¬ (f : Int) = 6 ∧ (f : Int) = 7))) := by
    cases hw : x.wide with
    | false => exact Or.inl rfl
    | true =>
      rw [hw] at g3
      refine Or.inr ⟨rfl, ?_⟩
      rcases g3 with g | g | g
      · cases g
      · exact Or.inl (by omega)
      · exact Or.inr ⟨by omega, by omega⟩
  have fx0 := fx
  rcases g5 with gw | ⟨gw, g6 | ⟨g6, g7⟩⟩
  case' inl =>
    rw [gw] at fx
    simp (disch := first | omega | assumption) only [C.code_Encode_gos, vs, Go.Vc.vk, T.ts, ↓reduceIte, Nat.reduceEqDiff, reduceCtorEq, Nat.reduceLeDiff, Nat.reducePow, Int.reducePow, Int.reduceToNat, Nat.reduceAdd, hv5, fx, eq_false g1', eq_false g2']
  case' inr.inl =>
    rw [gw] at fx
    simp (disch := first | omega | assumption) only [C.code_Encode_gos, vs, Go.Vc.vk, T.ts, ↓reduceIte, Nat.reduceEqDiff, reduceCtorEq, Nat.reduceLeDiff, Nat.reducePow, Int.reducePow, Int.reduceToNat, Nat.reduceAdd, hv5, fx, eq_false g1', eq_false g2', eq_true g6]
  case' inr.inr =>
    rw [gw] at fx
    simp (disch := first | omega | assumption) only [C.code_Encode_gos, vs, Go.Vc.vk, T.ts, ↓reduceIte, Nat.reduceEqDiff, reduceCtorEq, Nat.reduceLeDiff, Nat.reducePow, Int.reducePow, Int.reduceToNat, Nat.reduceAdd, hv5, fx, eq_false g1', eq_false g2', eq_false g6, eq_true g7]
  all_goals
    refine eff_call_of ?_
    simp (disch := first | omega | assumption) only [C.code_Encode_gos, vs, Go.Vc.vk, T.ts, ↓reduceIte, Nat.reduceEqDiff, reduceCtorEq, Nat.reduceLeDiff, Nat.reducePow, Int.reducePow, Int.reduceToNat, Nat.reduceAdd]
    rw [gw] at hcall
    refine hcall.mono ?_
    intro v6 h6 hp6
    have HE6 := hp6.1
    have K6 := hp6.2
    have HM6 := MapO.keepB HM4 K6
    have k1 := HE6.c1
    obtain ⟨vb6, hblk6, own6⟩ := HE6.2.2
    obtain ⟨ab6, cb6, rfl, _⟩ := own6.slN.2
    have k0 : cellAt h6 ⟨g, 0, none⟩ = some (.slice ab6 b6.length cb6) := by rw [cellAt_of hblk6]; rfl
    cases ok6 with
    | false =>
      rw [if_pos rfl] at hR
      subst hR
      simp (disch := first | omega | assumption) only [C.code_Encode_gos, vs, Go.Vc.vk, T.ts, ↓reduceIte, Nat.reduceEqDiff, reduceCtorEq, Nat.reduceLeDiff, Nat.reducePow, Int.reducePow, Int.reduceToNat, Nat.reduceAdd, k1]
      exact ⟨HE6.2.1, rfl⟩
    | true =>
      rw [if_neg (by simp)] at hR
      by_cases hlong : 65535 < b6.length
      · rw [if_pos hlong] at hR
        subst hR
        have hlong' : (65535 : Int) < b6.length := by omega
        simp (disch := first | omega | assumption) only [C.code_Encode_gos, vs, Go.Vc.vk, T.ts, ↓reduceIte, Nat.reduceEqDiff, reduceCtorEq, Nat.reduceLeDiff, Nat.reducePow, Int.reducePow, Int.reduceToNat, Nat.reduceAdd, k1, k0, hlong']
        exact ⟨HE6.2.1, rfl⟩
      · rw [if_neg hlong] at hR
        have hlong' : ¬ (65535 : Int) < b6.length := by omega
        simp (disch := first | omega | assumption) only [C.code_Encode_gos, vs, Go.Vc.vk, T.ts, ↓reduceIte, Nat.reduceEqDiff, reduceCtorEq, Nat.reduceLeDiff, Nat.reducePow, Int.reducePow, Int.reduceToNat, Nat.reduceAdd, k1, k0, hlong']
        exact ⟨_, by omega, i + 1, b6, F4, rfl, by omega, by simp, HE6, HM6, HB4, by omega, hR⟩
end Go.Proofs.Ytjpcpkhegjndeaa

/- Functions of Go's library on texts: prefix, the place of a byte, of a rune, of any of some. No condition. -/
import Derived.Test.YtgdmoimclelfhaaDoorT
import Derived.Test.YtgdmoimclelfhaaDoorCe
import Derived.Test.YtgdmoimclelfhaaDoorDA
namespace Go.Proofs.YtgdmoimclelfhaaDoor
open Go.Vc
set_option maxRecDepth 100000
set_option linter.unusedSimpArgs false
set_option linter.unusedVariables false

theorem run_ib (c : UInt8) (l : List UInt8) (w : World) : (Extern.BytealgIndexByte.indexByte #[str l, .int .u8 (c.toNat : Int)]).run Tryd.prog w = .ok (.int .i64 (ib l c)) w := by
  have h := Lib.run_indexByteString (P := Tryd.prog) ⟨l.toArray⟩ (c.toNat : Int) w
  have hc : ((c.toNat : Int)).toNat.toUInt8 = c := by simp
  rw [hc] at h
  exact h
theorem slIndexByte_any {h : Heap} (c : UInt8) (l : List UInt8) : HCalls Tryd.prog 51 #[str l, .int .u8 (c.toNat : Int)] h fun v h' => h' = h ∧ v = .int .i64 (ib l c) := by
  refine C.sl_IndexByte_calls (args := [str l, .int .u8 (c.toNat : Int)]) rfl ?_
  simp (disch := first | omega | assumption) only [C.sl_IndexByte_gos, T.tv, ↓reduceIte, Nat.reduceEqDiff, reduceCtorEq, Nat.reduceLeDiff, Nat.reducePow, Int.reducePow, Int.reduceToNat, Nat.reduceAdd]
  refine eff_callX (v := .int .i64 (ib l c)) rfl Tryd.func57 (by kernel_rfl) (by kernel_rfl) (by kernel_rfl) (by kernel_rfl) (run_ib c l) ?_
  simp (disch := first | omega | assumption) only [C.sl_IndexByte_gos, T.tv, ↓reduceIte, Nat.reduceEqDiff, reduceCtorEq, Nat.reduceLeDiff, Nat.reducePow, Int.reducePow, Int.reduceToNat, Nat.reduceAdd]
theorem indexByte_any {h : Heap} (c : UInt8) (l : List UInt8) : HCalls Tryd.prog 44 #[str l, .int .u8 (c.toNat : Int)] h fun v h' => h' = h ∧ v = .int .i64 (ib l c) := by
  refine C.s_IndexByte_calls (args := [str l, .int .u8 (c.toNat : Int)]) rfl ?_
  simp (disch := first | omega | assumption) only [C.s_IndexByte_gos, T.tv, ↓reduceIte, Nat.reduceEqDiff, reduceCtorEq, Nat.reduceLeDiff, Nat.reducePow, Int.reducePow, Int.reduceToNat, Nat.reduceAdd]
  refine eff_callF rfl ((slIndexByte_any c l).mono ?_)
  rintro v1 h1 ⟨rfl, rfl⟩
  simp (disch := first | omega | assumption) only [C.s_IndexByte_gos, T.tv, ↓reduceIte, Nat.reduceEqDiff, reduceCtorEq, Nat.reduceLeDiff, Nat.reducePow, Int.reducePow, Int.reduceToNat, Nat.reduceAdd]

theorem slHasPrefix_any {h : Heap} (c : UInt8) (l : List UInt8) : HCalls Tryd.prog 43 #[str l, str [c]] h fun v h' => h' = h ∧ v = .bool (decide (l.head? = some c)) := by
  refine C.sl_HasPrefix_calls (args := [str l, str [c]]) rfl ?_
  cases l with
  | nil =>
    have f1 : ¬ (((1 : Nat) : Int) ≤ ((0 : Nat) : Int)) := by decide
    simp (disch := first | omega | assumption) only [C.sl_HasPrefix_gos, T.tv, ↓reduceIte, Nat.reduceEqDiff, reduceCtorEq, Nat.reduceLeDiff, Nat.reducePow, Int.reducePow, Int.reduceToNat, Nat.reduceAdd, f1, decide_false]
    all_goals simp
  | cons b r =>
    have f1 : ((1 : Nat) : Int) ≤ ((r.length + 1 : Nat) : Int) := by omega
    simp (disch := first | omega | assumption) only [C.sl_HasPrefix_gos, T.tv, ↓reduceIte, Nat.reduceEqDiff, reduceCtorEq, Nat.reduceLeDiff, Nat.reducePow, Int.reducePow, Int.reduceToNat, Nat.reduceAdd, f1, decide_true]
    all_goals simp
theorem hasPrefix_any {h : Heap} (c : UInt8) (l : List UInt8) : HCalls Tryd.prog 37 #[str l, str [c]] h fun v h' => h' = h ∧ v = .bool (decide (l.head? = some c)) := by
  refine C.s_HasPrefix_calls (args := [str l, str [c]]) rfl ?_
  simp (disch := first | omega | assumption) only [C.s_HasPrefix_gos, T.tv, ↓reduceIte, Nat.reduceEqDiff, reduceCtorEq, Nat.reduceLeDiff, Nat.reducePow, Int.reducePow, Int.reduceToNat, Nat.reduceAdd]
  refine eff_callF rfl ((slHasPrefix_any c l).mono ?_)
  rintro v1 h1 ⟨rfl, rfl⟩
  simp (disch := first | omega | assumption) only [C.s_HasPrefix_gos, T.tv, ↓reduceIte, Nat.reduceEqDiff, reduceCtorEq, Nat.reduceLeDiff, Nat.reducePow, Int.reducePow, Int.reduceToNat, Nat.reduceAdd]

theorem validRune_any {h : Heap} (n : Int) : HCalls Tryd.prog 54 #[.int .i32 n] h fun v h' => h' = h ∧ ∃ b, v = .bool b := by
  refine C.u_ValidRune_calls (args := [.int .i32 n]) rfl ?_
  by_cases h1 : 0 ≤ n <;> by_cases h2 : n < 55296 <;> by_cases h3 : 57343 < n <;> by_cases h4 : n ≤ 1114111
  all_goals
    simp (disch := first | omega | assumption) only [C.u_ValidRune_gos, T.tv, ↓reduceIte, Nat.reduceEqDiff, reduceCtorEq, Nat.reduceLeDiff, Nat.reducePow, Int.reducePow, Int.reduceToNat, Nat.reduceAdd, h1, h2, h3, h4, decide_true, decide_false]
  all_goals exact ⟨_, rfl⟩

theorem indexRune_lo {h : Heap} (cs : List UInt8) (c : UInt8) (hc : c.toNat < 128) :
    HCalls Tryd.prog 47 #[str cs, .int .i32 (c.toNat : Int)] h fun v h' => h' = h ∧ v = .int .i64 (ib cs c) := by
  refine C.s_IndexRune_calls (args := [str cs, .int .i32 (c.toNat : Int)]) rfl ?_
  have f1 : (0 : Int) ≤ (c.toNat : Int) := by omega
  have f2 : (c.toNat : Int) < 128 := by omega
  simp (disch := first | omega | assumption) only [C.s_IndexRune_gos, T.tv, ↓reduceIte, Nat.reduceEqDiff, reduceCtorEq, Nat.reduceLeDiff, Nat.reducePow, Int.reducePow, Int.reduceToNat, Nat.reduceAdd, f1, f2, decide_true]
  refine eff_callF rfl ((indexByte_any c cs).mono ?_)
  rintro v1 h1 ⟨rfl, rfl⟩
  simp (disch := first | omega | assumption) only [C.s_IndexRune_gos, T.tv, ↓reduceIte, Nat.reduceEqDiff, reduceCtorEq, Nat.reduceLeDiff, Nat.reducePow, Int.reducePow, Int.reduceToNat, Nat.reduceAdd]

theorem indexRune_hi {h : Heap} (cs : List UInt8) (n : Int) (hcs : ∀ b ∈ cs, b.toNat < 128) (hl : cs.length ≤ 1000) (h0 : 128 ≤ n) (h31 : n < 2147483648) :
    HCalls Tryd.prog 47 #[str cs, .int .i32 n] h fun v h' => Ext h h' ∧ v = .int .i64 (-1) := by
  refine C.s_IndexRune_calls (args := [str cs, .int .i32 n]) rfl ?_
  have f1 : 0 ≤ n := by omega
  have f2 : ¬ n < 128 := by omega
  by_cases he : n = 65533
  · simp (disch := first | omega | assumption) only [C.s_IndexRune_gos, T.tv, ↓reduceIte, Nat.reduceEqDiff, reduceCtorEq, Nat.reduceLeDiff, Nat.reducePow, Int.reducePow, Int.reduceToNat, Nat.reduceAdd, f1, f2, eq_true he, decide_true, decide_false]
    refine eff_range_str Tryd.underlying9 rfl ?_
    have E := Ext.push h (.stringIter ⟨cs.toArray⟩ 0)
    have b0 : (h.push (.stringIter ⟨cs.toArray⟩ 0))[h.size]? = some (.stringIter ⟨cs.toArray⟩ 0) := by simp
    generalize h.push (.stringIter ⟨cs.toArray⟩ 0) = h1 at *
    obtain ⟨it, hit⟩ : ∃ x, x = h.size := ⟨_, rfl⟩
    rw [← hit] at b0 ⊢
    simp (disch := first | omega | assumption) only [C.s_IndexRune_gos, T.tv, ↓reduceIte, Nat.reduceEqDiff, reduceCtorEq, Nat.reduceLeDiff, Nat.reducePow, Int.reducePow, Int.reduceToNat, Nat.reduceAdd]
    refine loop_intro [175] (fun m ρ hc => ∃ pos : Nat, m = cs.length - pos ∧ ρ = [(175, .pointer (some ⟨it, 0, none⟩))] ∧ Ext h hc ∧ hc[it]? = some (.stringIter ⟨cs.toArray⟩ pos)) ?_ ?_
    · simp (disch := first | omega | assumption) only [C.s_IndexRune_gos, T.tv, ↓reduceIte, Nat.reduceEqDiff, reduceCtorEq, Nat.reduceLeDiff, Nat.reducePow, Int.reducePow, Int.reduceToNat, Nat.reduceAdd]
      exact ⟨_, 0, rfl, E, b0⟩
    · rintro m ρ hc ⟨pos, rfl, rfl, hx, hb⟩
      simp (disch := first | omega | assumption) only [C.s_IndexRune_gos, T.tv, ↓reduceIte, Nat.reduceEqDiff, reduceCtorEq, Nat.reduceLeDiff, Nat.reducePow, Int.reducePow, Int.reduceToNat, Nat.reduceAdd]
      refine eff_next_str rfl hb ?_ ?_
      · intro hp
        have hlo : (cs.getD pos 0).toNat < 128 := hcs _ (by simp [hp])
        rw [decU_lo hlo]
        have hne : ¬ ((cs.getD pos 0).toNat : Int) = 65533 := by omega
        simp (disch := first | omega | assumption) only [C.s_IndexRune_gos, T.tv, ↓reduceIte, Nat.reduceEqDiff, reduceCtorEq, Nat.reduceLeDiff, Nat.reducePow, Int.reducePow, Int.reduceToNat, Nat.reduceAdd, hne, decide_false]
        exact ⟨cs.length - (pos + 1), by omega, pos + 1, rfl, hx.iter (by omega), iter_get hb⟩
      · intro hp
        simp (disch := first | omega | assumption) only [C.s_IndexRune_gos, T.tv, ↓reduceIte, Nat.reduceEqDiff, reduceCtorEq, Nat.reduceLeDiff, Nat.reducePow, Int.reducePow, Int.reduceToNat, Nat.reduceAdd]
        exact hx
  · simp (disch := first | omega | assumption) only [C.s_IndexRune_gos, T.tv, ↓reduceIte, Nat.reduceEqDiff, reduceCtorEq, Nat.reduceLeDiff, Nat.reducePow, Int.reducePow, Int.reduceToNat, Nat.reduceAdd, f1, f2, eq_false he, decide_true, decide_false]
    refine eff_callF rfl ((validRune_any n).mono ?_)
    rintro v1 h1 ⟨rfl, b, rfl⟩
    cases b with
    | false =>
      simp (disch := first | omega | assumption) only [C.s_IndexRune_gos, T.tv, ↓reduceIte, Nat.reduceEqDiff, reduceCtorEq, Nat.reduceLeDiff, Nat.reducePow, Int.reducePow, Int.reduceToNat, Nat.reduceAdd]
      exact Ext.refl _
    | true =>
      obtain ⟨pre, b, hb, hp1, hp3, hb128⟩ := encU_hi h0
      have hcv := fun (h : Heap) => cv_rune (P := Tryd.prog) (h := h) (k' := .i32) (n := n) Tryd.underlying21 Tryd.underlying9
      have hL : (encU n).length = pre.length + 1 := by rw [hb]; simp
      have hg : (encU n).getD pre.length 0 = b := by rw [hb]; simp
      generalize encU n = eu at *
      obtain ⟨p, hp⟩ : ∃ p, p = pre.length := ⟨_, rfl⟩
      rw [← hp] at hL hg hp1 hp3
      have hw : IntKind.i64.wrap ((eu.length : Int) - 1) = (p : Int) := by rw [wrap_i64 (by omega) (by omega)]; omega
      simp (disch := first | omega | assumption) only [C.s_IndexRune_gos, T.tv, ↓reduceIte, Nat.reduceEqDiff, reduceCtorEq, Nat.reduceLeDiff, Nat.reducePow, Int.reducePow, Int.reduceToNat, Nat.reduceAdd, hcv, hw]
      refine loop_intro [0, 7, 8, 9] (fun m ρ hc => ρ = [(0, str cs), (7, str eu), (8, .int .i64 (p : Int)), (9, .int .i64 (p : Int))] ∧ hc = h1) ?_ ?_
      · simp (disch := first | omega | assumption) only [C.s_IndexRune_gos, T.tv, ↓reduceIte, Nat.reduceEqDiff, reduceCtorEq, Nat.reduceLeDiff, Nat.reducePow, Int.reducePow, Int.reduceToNat, Nat.reduceAdd]
        exact ⟨0, trivial⟩
      · rintro m ρ hc ⟨rfl, rfl⟩
        by_cases hlt : p < cs.length
        · have hlt' : (p : Int) < (cs.length : Int) := by omega
          have heu : (p : Int) < (eu.length : Int) := by omega
          have hlo : (cs.getD p 0).toNat < 128 := hcs _ (by simp [hlt])
          have hne : ¬ ((cs.getD p 0).toNat : Int) = (b.toNat : Int) := by omega
          have hq : ((p : Int) + 1).toNat = p + 1 := by omega
          have hno : ib (cs.drop (p + 1)) b = -1 := ib_none fun hm => by have := hcs b (List.mem_of_mem_drop hm); omega
          simp (disch := first | omega | assumption) only [C.s_IndexRune_gos, T.tv, ↓reduceIte, Nat.reduceEqDiff, reduceCtorEq, Nat.reduceLeDiff, Nat.reducePow, Int.reducePow, Int.reduceToNat, Nat.reduceAdd, hlt', heu, hg, hne, hq, decide_true, decide_false]
          refine eff_callF rfl ((indexByte_any b (cs.drop (p + 1))).mono ?_)
          rintro v2 h2 ⟨rfl, rfl⟩
          rw [hno]
          have : (-1 : Int) < 0 := by decide
          simp (disch := first | omega | assumption) only [C.s_IndexRune_gos, T.tv, ↓reduceIte, Nat.reduceEqDiff, reduceCtorEq, Nat.reduceLeDiff, Nat.reducePow, Int.reducePow, Int.reduceToNat, Nat.reduceAdd, this, decide_true]
          exact Ext.refl _
        · have hlt' : ¬ (p : Int) < (cs.length : Int) := by omega
          simp (disch := first | omega | assumption) only [C.s_IndexRune_gos, T.tv, ↓reduceIte, Nat.reduceEqDiff, reduceCtorEq, Nat.reduceLeDiff, Nat.reducePow, Int.reducePow, Int.reduceToNat, Nat.reduceAdd, hlt', decide_false]
          exact Ext.refl _

/-! ### The set of some bytes -/
def setV (cs : List UInt8) : List Value := (List.range 256).map fun i => .bool (cs.any fun b => decide (b.toNat = i))
theorem setV_len (cs : List UInt8) : (setV cs).length = 256 := by simp [setV]
theorem setV_one (cs : List UInt8) : ∀ u ∈ setV cs, oneCell u = true := by
  intro u hu
  obtain ⟨i, _, rfl⟩ := List.mem_map.1 hu
  rfl
theorem setV_at (cs : List UInt8) (b : UInt8) : (setV cs)[b.toNat]? = some (.bool (decide (b ∈ cs))) := by
  have hb : b.toNat < 256 := UInt8.toNat_lt b
  unfold setV
  rw [List.getElem?_map, List.getElem?_range hb]
  simp only [Option.map_some]
  congr 2
  rw [Bool.eq_iff_iff, List.any_eq_true, decide_eq_true_eq]
  constructor
  · rintro ⟨x, hx, he⟩
    have : x = b := UInt8.toNat_inj.1 (by simpa using he)
    subst this; exact hx
  · intro h; exact ⟨b, h, by simp⟩
theorem setV_snoc (cs : List UInt8) (b : UInt8) : (setV cs).set b.toNat (.bool true) = setV (cs ++ [b]) := by
  apply List.ext_getElem
  · simp [setV]
  · intro i h1 h2
    rw [List.getElem_set]
    have h3 : i < 256 := by simpa [setV] using h2
    simp only [setV, List.getElem_map, List.getElem_range, List.any_append, List.any_cons, List.any_nil, Bool.or_false]
    by_cases he : b.toNat = i
    · simp [he]
    · simp [he]
theorem setV_zr : zrT Tryd.prog 70 (setV []).toArray := by unfold zrT; kernel_rfl
theorem iar_set {b o : Nat} {k : IntKind} {i : Int} {h : Heap} (h0 : 0 ≤ i) (h1 : i < 256) : iaE Tryd.prog 70 (.pointer (some ⟨b, o, none⟩)) (.int k i) h = some (.pointer (some ⟨b, o + i.toNat * 1, none⟩)) :=
  iar_of (len := 256) (by kernel_rfl) h0 h1

theorem makeSet_any {h : Heap} (cs : List UInt8) (hcs : ∀ b ∈ cs, b.toNat < 128) (hl : cs.length ≤ 1000) :
    HCalls Tryd.prog 49 #[str cs] h fun v h' => Ext h h' ∧ v = .tuple #[.agg (setV cs).toArray, .bool true] := by
  refine C.s_makeSet_calls (args := [str cs]) rfl ?_
  simp (disch := first | omega | assumption) only [C.s_makeSet_gos, T.tv, ↓reduceIte, Nat.reduceEqDiff, reduceCtorEq, Nat.reduceLeDiff, Nat.reducePow, Int.reducePow, Int.reduceToNat, Nat.reduceAdd]
  refine eff_alloc_z setV_zr ?_
  have E := Ext.push h (.cells (setV []).toArray 70)
  have b0 : (h.push (.cells (setV []).toArray 70))[h.size]? = some (.cells (setV []).toArray 70 (0, 0)) := by simp
  generalize h.push (.cells (setV []).toArray 70) = h1 at *
  obtain ⟨g, hg⟩ : ∃ x, x = h.size := ⟨_, rfl⟩
  rw [← hg] at b0 ⊢
  simp (disch := first | omega | assumption) only [C.s_makeSet_gos, T.tv, ↓reduceIte, Nat.reduceEqDiff, reduceCtorEq, Nat.reduceLeDiff, Nat.reducePow, Int.reducePow, Int.reduceToNat, Nat.reduceAdd]
  refine loop_intro [0, 2, 4] (fun m ρ hc => ∃ i : Nat, m = cs.length - i ∧ i ≤ cs.length ∧ ρ = [(0, str cs), (2, .pointer (some ⟨g, 0, none⟩)), (4, .int .i64 (i : Int))] ∧ Ext h hc ∧ hc[g]? = some (.cells (setV (cs.take i)).toArray 70 (0, 0))) ?_ ?_
  · simp (disch := first | omega | assumption) only [C.s_makeSet_gos, T.tv, ↓reduceIte, Nat.reduceEqDiff, reduceCtorEq, Nat.reduceLeDiff, Nat.reducePow, Int.reducePow, Int.reduceToNat, Nat.reduceAdd]
    exact ⟨_, 0, rfl, Nat.zero_le _, rfl, E, b0⟩
  rintro m ρ hc ⟨i, rfl, hi, rfl, hx, hb⟩
  by_cases hlt : i < cs.length
  · have hlt' : (i : Int) < (cs.length : Int) := by omega
    have hlo : (cs.getD i 0).toNat < 128 := hcs _ (by simp [hlt])
    have hge : ¬ (128 : Int) ≤ ((cs.getD i 0).toNat : Int) := by omega
    have h256 : ((cs.getD i 0).toNat : Int) < 256 := by omega
    have hst : cs.take (i + 1) = cs.take i ++ [cs.getD i 0] := by rw [List.take_add_one]; simp [hlt]
    generalize hbd : cs.getD i 0 = b at *
    simp (disch := first | omega | assumption) only [C.s_makeSet_gos, T.tv, ↓reduceIte, Nat.reduceEqDiff, reduceCtorEq, Nat.reduceLeDiff, Nat.reducePow, Int.reducePow, Int.reduceToNat, Nat.reduceAdd, hbd, hlt', hge, decide_true, decide_false, iar_set]
    have hc0 : cellAt hc ⟨g, b.toNat, none⟩ = some (.bool (decide (b ∈ cs.take i))) := by
      rw [cellAt_of hb, List.getElem?_toArray, setV_at]
    have hz : frozenAt hc ⟨g, b.toNat, none⟩ = false := by unfold frozenAt; rw [hb]; simp
    refine eff_store1_z (v := .bool true) (b := g) (o := b.toNat) T.zr_4 rfl rfl rfl rfl rfl hc0 hz ?_
    have hb' := setAt_get (o := b.toNat) hb (.bool true)
    rw [List.setIfInBounds_toArray, setV_snoc, ← hst] at hb'
    have hx' : Ext h (setAt hc ⟨g, b.toNat, none⟩ (.bool true)) := Fr.trans (T := fun _ => False) hx (Fr.set (S := fun k => k = g) hc ⟨g, b.toNat, none⟩ (.bool true) fun _ => rfl) (fun _ _ h => h) fun k hk hS => by omega
    generalize setAt hc ⟨g, b.toNat, none⟩ (.bool true) = h2 at *
    simp (disch := first | omega | assumption) only [C.s_makeSet_gos, T.tv, ↓reduceIte, Nat.reduceEqDiff, reduceCtorEq, Nat.reduceLeDiff, Nat.reducePow, Int.reducePow, Int.reduceToNat, Nat.reduceAdd]
    exact ⟨cs.length - (i + 1), by omega, i + 1, rfl, by omega, rfl, hx', hb'⟩
  · have hlt' : ¬ (i : Int) < (cs.length : Int) := by omega
    rw [List.take_of_length_le (by omega)] at hb
    have hld : ∀ h' : Heap, h'[g]? = some (.cells (setV cs).toArray 70 (0, 0)) → ld Tryd.prog 70 ⟨g, 0, none⟩ h' = some (.agg (setV cs).toArray) := by
      intro h' hb'
      refine ld_agg T.ag_70 (fun j v hv => ?_) (setV_len cs)
      rw [Nat.zero_add, cellAt_of hb']; simpa using hv
    have hld1 := hld hc hb
    simp (disch := first | omega | assumption) only [C.s_makeSet_gos, T.tv, ↓reduceIte, Nat.reduceEqDiff, reduceCtorEq, Nat.reduceLeDiff, Nat.reducePow, Int.reducePow, Int.reduceToNat, Nat.reduceAdd, hlt', hld1, decide_false]
    refine eff_storeN_z setV_zr rfl rfl (by simp [Value.cells, setV_len]) (by simpa [Value.cells] using setV_one cs) hb (by simp [setV_len]) ?_
    intro h2 hf hb2
    have hld2 := hld h2 hb2
    have hx2 : Ext h h2 := Fr.trans (T := fun _ => False) hx hf (fun _ _ h => h) fun k hk hS => by omega
    simp (disch := first | omega | assumption) only [C.s_makeSet_gos, T.tv, ↓reduceIte, Nat.reduceEqDiff, reduceCtorEq, Nat.reduceLeDiff, Nat.reducePow, Int.reducePow, Int.reduceToNat, Nat.reduceAdd, hld2]
    exact hx2

theorem setHas_any {h : Heap} {g : Nat} {cs : List UInt8} {e : TypeId} {fz : Nat × Nat} (b : UInt8) (hb : h[g]? = some (.cells (setV cs).toArray e fz)) :
    HCalls Tryd.prog 50 #[.pointer (some ⟨g, 0, none⟩), .int .u8 (b.toNat : Int)] h fun v h' => h' = h ∧ v = .bool (decide (b ∈ cs)) := by
  refine C.s_contains_calls (args := [.pointer (some ⟨g, 0, none⟩), .int .u8 (b.toNat : Int)]) rfl ?_
  have h256 : (b.toNat : Int) < 256 := by have := UInt8.toNat_lt b; omega
  have hc0 : cellAt h ⟨g, b.toNat, none⟩ = some (.bool (decide (b ∈ cs))) := by
    rw [cellAt_of hb, List.getElem?_toArray, setV_at]
  simp (disch := first | omega | assumption) only [C.s_contains_gos, T.tv, ↓reduceIte, Nat.reduceEqDiff, reduceCtorEq, Nat.reduceLeDiff, Nat.reducePow, Int.reducePow, Int.reduceToNat, Nat.reduceAdd, iar_set, hc0]

theorem should_any {h : Heap} (n : Nat) : HCalls Tryd.prog 48 #[.int .i64 (n : Int)] h fun v h' => h' = h ∧ v = .bool (decide (8 < n)) := by
  refine C.s_should_calls (args := [.int .i64 (n : Int)]) rfl ?_
  by_cases hn : 8 < n
  · have h1 : (8 : Int) < (n : Int) := by omega
    simp (disch := first | omega | assumption) only [C.s_should_gos, T.tv, ↓reduceIte, Nat.reduceEqDiff, reduceCtorEq, Nat.reduceLeDiff, Nat.reducePow, Int.reducePow, Int.reduceToNat, Nat.reduceAdd, h1, hn, decide_true]
  · have h1 : ¬ (8 : Int) < (n : Int) := by omega
    simp (disch := first | omega | assumption) only [C.s_should_gos, T.tv, ↓reduceIte, Nat.reduceEqDiff, reduceCtorEq, Nat.reduceLeDiff, Nat.reducePow, Int.reducePow, Int.reduceToNat, Nat.reduceAdd, h1, hn, decide_false]

theorem indexAny_any {h : Heap} (cs l : List UInt8) (hcs : ∀ b ∈ cs, b.toNat < 128) (hl2 : 2 ≤ cs.length) (hl : cs.length ≤ 1000) (hs : l.length ≤ 1099511627776) :
    HCalls Tryd.prog 42 #[str l, str cs] h fun v h' => Ext h h' ∧ ∃ k : Int, v = .int .i64 k ∧ (decide (0 ≤ k) = hasAny cs l) := by
  refine C.s_IndexAny_calls (args := [str l, str cs]) rfl ?_
  have n0 : ¬ cs = [] := by rintro rfl; simp at hl2
  have n1 : ¬ (cs.length : Int) = 1 := by omega
  simp (disch := first | omega | assumption) only [C.s_IndexAny_gos, T.tv, ↓reduceIte, Nat.reduceEqDiff, reduceCtorEq, Nat.reduceLeDiff, Nat.reducePow, Int.reducePow, Int.reduceToNat, Nat.reduceAdd, n0, n1, decide_false]
  refine eff_callF rfl ((should_any l.length).mono ?_)
  rintro v1 h1 ⟨rfl, rfl⟩
  by_cases h8 : 8 < l.length
  · rw [decide_eq_true h8]
    simp (disch := first | omega | assumption) only [C.s_IndexAny_gos, T.tv, ↓reduceIte, Nat.reduceEqDiff, reduceCtorEq, Nat.reduceLeDiff, Nat.reducePow, Int.reducePow, Int.reduceToNat, Nat.reduceAdd]
    refine eff_callF rfl ((makeSet_any cs hcs hl).mono ?_)
    rintro v2 h2 ⟨hx, rfl⟩
    simp (disch := first | omega | assumption) only [C.s_IndexAny_gos, T.tv, ↓reduceIte, Nat.reduceEqDiff, reduceCtorEq, Nat.reduceLeDiff, Nat.reducePow, Int.reducePow, Int.reduceToNat, Nat.reduceAdd]
    refine eff_alloc_z setV_zr ?_
    simp (disch := first | omega | assumption) only [C.s_IndexAny_gos, T.tv, ↓reduceIte, Nat.reduceEqDiff, reduceCtorEq, Nat.reduceLeDiff, Nat.reducePow, Int.reducePow, Int.reduceToNat, Nat.reduceAdd]
    refine eff_store_new_z setV_zr rfl rfl (by simp [Value.cells, setV_len]) (by simpa [Value.cells] using setV_one cs) rfl ?_
    intro h3 hx3 _ _ hb3
    replace hb3 : h3[h2.size]? = some (.cells (setV cs).toArray 70 (0, 0)) := hb3
    obtain ⟨g, hg⟩ : ∃ x, x = h2.size := ⟨_, rfl⟩
    rw [← hg] at hb3 ⊢
    have hx3' := hx.trans hx3
    simp (disch := first | omega | assumption) only [C.s_IndexAny_gos, T.tv, ↓reduceIte, Nat.reduceEqDiff, reduceCtorEq, Nat.reduceLeDiff, Nat.reducePow, Int.reducePow, Int.reduceToNat, Nat.reduceAdd]
    refine loop_intro [0, 6, 8] (fun m ρ hc => ∃ i : Nat, m = l.length - i ∧ i ≤ l.length ∧ ρ = [(0, str l), (6, .pointer (some ⟨g, 0, none⟩)), (8, .int .i64 (i : Int))] ∧ hc = h3 ∧ ∀ j, j < i → l.getD j 0 ∉ cs) ?_ ?_
    · simp (disch := first | omega | assumption) only [C.s_IndexAny_gos, T.tv, ↓reduceIte, Nat.reduceEqDiff, reduceCtorEq, Nat.reduceLeDiff, Nat.reducePow, Int.reducePow, Int.reduceToNat, Nat.reduceAdd]
      exact ⟨_, 0, rfl, Nat.zero_le _, rfl, fun j hj => by omega⟩
    rintro m ρ hc ⟨i, rfl, hi, rfl, rfl, hno⟩
    by_cases hlt : i < l.length
    · have hlt' : (i : Int) < (l.length : Int) := by omega
      simp (disch := first | omega | assumption) only [C.s_IndexAny_gos, T.tv, ↓reduceIte, Nat.reduceEqDiff, reduceCtorEq, Nat.reduceLeDiff, Nat.reducePow, Int.reducePow, Int.reduceToNat, Nat.reduceAdd, hlt', decide_true]
      refine eff_callF rfl ((setHas_any (l.getD i 0) hb3).mono ?_)
      rintro v4 h4 ⟨rfl, rfl⟩
      by_cases hin : l.getD i 0 ∈ cs
      · rw [decide_eq_true hin]
        simp (disch := first | omega | assumption) only [C.s_IndexAny_gos, T.tv, ↓reduceIte, Nat.reduceEqDiff, reduceCtorEq, Nat.reduceLeDiff, Nat.reducePow, Int.reducePow, Int.reduceToNat, Nat.reduceAdd]
        refine ⟨hx3', (i : Int), rfl, ?_⟩
        rw [hasAny_true hlt hin]; simp
      · rw [decide_eq_false hin]
        simp (disch := first | omega | assumption) only [C.s_IndexAny_gos, T.tv, ↓reduceIte, Nat.reduceEqDiff, reduceCtorEq, Nat.reduceLeDiff, Nat.reducePow, Int.reducePow, Int.reduceToNat, Nat.reduceAdd]
        refine ⟨l.length - (i + 1), by omega, i + 1, rfl, by omega, rfl, fun j hj => ?_⟩
        rcases Nat.lt_or_ge j i with h' | h'
        · exact hno j h'
        · have : j = i := by omega
          subst this; exact hin
    · have hlt' : ¬ (i : Int) < (l.length : Int) := by omega
      simp (disch := first | omega | assumption) only [C.s_IndexAny_gos, T.tv, ↓reduceIte, Nat.reduceEqDiff, reduceCtorEq, Nat.reduceLeDiff, Nat.reducePow, Int.reducePow, Int.reduceToNat, Nat.reduceAdd, hlt', decide_false]
      refine ⟨hx3', -1, rfl, ?_⟩
      rw [hasAny_false fun j hj => hno j (by omega)]; rfl
  · rw [decide_eq_false h8]
    simp (disch := first | omega | assumption) only [C.s_IndexAny_gos, T.tv, ↓reduceIte, Nat.reduceEqDiff, reduceCtorEq, Nat.reduceLeDiff, Nat.reducePow, Int.reducePow, Int.reduceToNat, Nat.reduceAdd]
    refine eff_range_str Tryd.underlying9 rfl ?_
    have E := Ext.push h1 (.stringIter ⟨l.toArray⟩ 0)
    have b0 : (h1.push (.stringIter ⟨l.toArray⟩ 0))[h1.size]? = some (.stringIter ⟨l.toArray⟩ 0) := by simp
    generalize h1.push (.stringIter ⟨l.toArray⟩ 0) = h2 at *
    obtain ⟨it, hit⟩ : ∃ x, x = h1.size := ⟨_, rfl⟩
    rw [← hit] at b0 ⊢
    simp (disch := first | omega | assumption) only [C.s_IndexAny_gos, T.tv, ↓reduceIte, Nat.reduceEqDiff, reduceCtorEq, Nat.reduceLeDiff, Nat.reducePow, Int.reducePow, Int.reduceToNat, Nat.reduceAdd]
    refine loop_intro [1, 45] (fun m ρ hc => ∃ pos : Nat, m = l.length - pos ∧ ρ = [(1, str cs), (45, .pointer (some ⟨it, 0, none⟩))] ∧ Ext h1 hc ∧ hc[it]? = some (.stringIter ⟨l.toArray⟩ pos) ∧ ∀ j, j < pos → j < l.length → l.getD j 0 ∉ cs) ?_ ?_
    · simp (disch := first | omega | assumption) only [C.s_IndexAny_gos, T.tv, ↓reduceIte, Nat.reduceEqDiff, reduceCtorEq, Nat.reduceLeDiff, Nat.reducePow, Int.reducePow, Int.reduceToNat, Nat.reduceAdd]
      exact ⟨_, 0, rfl, E, b0, fun j hj => by omega⟩
    rintro m ρ hc ⟨pos, rfl, rfl, hx, hb, hno⟩
    simp (disch := first | omega | assumption) only [C.s_IndexAny_gos, T.tv, ↓reduceIte, Nat.reduceEqDiff, reduceCtorEq, Nat.reduceLeDiff, Nat.reducePow, Int.reducePow, Int.reduceToNat, Nat.reduceAdd]
    refine eff_next_str rfl hb ?_ ?_
    · intro hp
      by_cases hlo : (l.getD pos 0).toNat < 128
      · rw [decU_lo hlo]
        have hx2 := hx.iter (it := it) (o := .stringIter ⟨l.toArray⟩ (pos + 1)) (by omega)
        have hb2 := iter_get (o := .stringIter ⟨l.toArray⟩ (pos + 1)) hb
        generalize hc.setIfInBounds it (.stringIter ⟨l.toArray⟩ (pos + 1)) = h3 at *
        simp (disch := first | omega | assumption) only [C.s_IndexAny_gos, T.tv, ↓reduceIte, Nat.reduceEqDiff, reduceCtorEq, Nat.reduceLeDiff, Nat.reducePow, Int.reducePow, Int.reduceToNat, Nat.reduceAdd]
        refine eff_callF rfl ((indexRune_lo cs (l.getD pos 0) hlo).mono ?_)
        rintro v4 h4 ⟨rfl, rfl⟩
        by_cases hin : l.getD pos 0 ∈ cs
        · have h0 := (ib_mem (l.getD pos 0) cs).2 hin
          simp (disch := first | omega | assumption) only [C.s_IndexAny_gos, T.tv, ↓reduceIte, Nat.reduceEqDiff, reduceCtorEq, Nat.reduceLeDiff, Nat.reducePow, Int.reducePow, Int.reduceToNat, Nat.reduceAdd, h0, decide_true]
          refine ⟨hx2, (pos : Int), rfl, ?_⟩
          rw [hasAny_true hp hin]; simp
        · have h0 : ¬ 0 ≤ ib cs (l.getD pos 0) := fun h => hin ((ib_mem _ _).1 h)
          simp (disch := first | omega | assumption) only [C.s_IndexAny_gos, T.tv, ↓reduceIte, Nat.reduceEqDiff, reduceCtorEq, Nat.reduceLeDiff, Nat.reducePow, Int.reducePow, Int.reduceToNat, Nat.reduceAdd, h0, decide_false]
          refine ⟨l.length - (pos + 1), by omega, pos + 1, rfl, hx2, hb2, fun j hj hjl => ?_⟩
          rcases Nat.lt_or_ge j pos with h' | h'
          · exact hno j h' hjl
          · have : j = pos := by omega
            subst this; exact hin
      · obtain ⟨d1, d2, d3, d4, d5⟩ := decU_hi hp hlo
        generalize decU l pos = cw at *
        obtain ⟨c, w⟩ := cw
        simp only [] at d1 d2 d3 d4 d5 ⊢
        have hx2 := hx.iter (it := it) (o := .stringIter ⟨l.toArray⟩ (pos + w)) (by omega)
        have hb2 := iter_get (o := .stringIter ⟨l.toArray⟩ (pos + w)) hb
        generalize hc.setIfInBounds it (.stringIter ⟨l.toArray⟩ (pos + w)) = h3 at *
        simp (disch := first | omega | assumption) only [C.s_IndexAny_gos, T.tv, ↓reduceIte, Nat.reduceEqDiff, reduceCtorEq, Nat.reduceLeDiff, Nat.reducePow, Int.reducePow, Int.reduceToNat, Nat.reduceAdd]
        refine eff_callF rfl ((indexRune_hi cs (c : Int) hcs hl (by omega) (by omega)).mono ?_)
        rintro v4 h4 ⟨hx4, rfl⟩
        have h0 : ¬ (0 : Int) ≤ -1 := by decide
        simp (disch := first | omega | assumption) only [C.s_IndexAny_gos, T.tv, ↓reduceIte, Nat.reduceEqDiff, reduceCtorEq, Nat.reduceLeDiff, Nat.reducePow, Int.reducePow, Int.reduceToNat, Nat.reduceAdd, h0, decide_false]
        have hit3 := (Array.getElem?_eq_some_iff.1 hb2).1
        refine ⟨l.length - (pos + w), by omega, pos + w, rfl, hx2.trans hx4, by rw [hx4.same it hit3 id]; exact hb2, fun j hj hjl => ?_⟩
        rcases Nat.lt_or_ge j pos with h' | h'
        · exact hno j h' hjl
        · intro hm
          have := hcs _ hm
          have := d5 j h' hj
          omega
    · intro hp
      simp (disch := first | omega | assumption) only [C.s_IndexAny_gos, T.tv, ↓reduceIte, Nat.reduceEqDiff, reduceCtorEq, Nat.reduceLeDiff, Nat.reducePow, Int.reducePow, Int.reduceToNat, Nat.reduceAdd]
      refine ⟨hx, -1, rfl, ?_⟩
      rw [hasAny_false fun j hj => hno j (by omega) hj]; rfl

theorem containsAny_any {h : Heap} (cs l : List UInt8) (hcs : ∀ b ∈ cs, b.toNat < 128) (hl2 : 2 ≤ cs.length) (hl : cs.length ≤ 1000) (hs : l.length ≤ 1099511627776) :
    HCalls Tryd.prog 36 #[str l, str cs] h fun v h' => Ext h h' ∧ v = .bool (hasAny cs l) := by
  refine C.s_ContainsAny_calls (args := [str l, str cs]) rfl ?_
  simp (disch := first | omega | assumption) only [C.s_ContainsAny_gos, T.tv, ↓reduceIte, Nat.reduceEqDiff, reduceCtorEq, Nat.reduceLeDiff, Nat.reducePow, Int.reducePow, Int.reduceToNat, Nat.reduceAdd]
  refine eff_callF rfl ((indexAny_any cs l hcs hl2 hl hs).mono ?_)
  rintro v1 h1 ⟨hx, k, rfl, hk⟩
  simp (disch := first | omega | assumption) only [C.s_ContainsAny_gos, T.tv, ↓reduceIte, Nat.reduceEqDiff, reduceCtorEq, Nat.reduceLeDiff, Nat.reducePow, Int.reducePow, Int.reduceToNat, Nat.reduceAdd, hk]
  exact hx
end Go.Proofs.YtgdmoimclelfhaaDoor

/- A class by its name in a pool. -/
import Derived.Test.YtohkbpnblkkdgaaM1
import Derived.Test.YtohkbpnblkkdgaaMA
namespace Go.Proofs.Ytohkbpnblkkdgaa
open Go.Vc
set_option maxRecDepth 100000
set_option linter.unusedSimpArgs false
set_option linter.unusedVariables false

def hitS (p : List Cst) (name : List UInt8) (c : Cst) : Bool := decide (c.tag = 7) && (isS p c.a 1 && decide ((p.getD c.a Cst.zero).text = name))
def idxS (f : Cst → Bool) (q : List Cst) : Int := match q.findIdx? f with | some i => i | none => -1
def clsS (p : List Cst) (name : List UInt8) : Nat := match (p.drop 1).findIdx? (hitS p name) with | some i => i + 1 | none => 0

theorem hit_any {h : Heap} {p : List Cst} {vp : Value} {wb vb g : Nat} {name : List UInt8} (c : Cst) (hc : c.Fit) (hs : SlN h 5 vp p.length (flatS p))
    (hw : cellAt h ⟨wb, 0, none⟩ = some (.pointer (some ⟨g, 0, none⟩))) (hp : cellAt h ⟨g, 1, none⟩ = some vp) (hv : cellAt h ⟨vb, 1, none⟩ = some (str name)) :
    HCalls Try.prog 88 #[.agg c.cells.toArray, .pointer (some ⟨wb, 0, none⟩), .pointer (some ⟨vb, 0, none⟩)] h fun v h' => Ext h h' ∧ v = .bool (hitS p name c) := by
  refine C.maps_wvalues_1_calls (args := [.agg c.cells.toArray, .pointer (some ⟨wb, 0, none⟩), .pointer (some ⟨vb, 0, none⟩)]) rfl ?_
  obtain ⟨tag, text, bits, ka, kb⟩ := c
  have hka : ka < 65536 := hc.a
  simp only [Cst.cells]
  simp (disch := first | omega | assumption) only [C.maps_wvalues_1_gos, vs, Go.Vc.vk, T.ts, ↓reduceIte, Nat.reduceEqDiff, reduceCtorEq, Nat.reduceLeDiff, Nat.reducePow, Int.reducePow, Int.reduceToNat, Nat.reduceAdd]
  refine eff_box ?_
  have E : Ext h (h.push (.cells #[.int .u8 (tag : Int), str text, .int .u64 (bits : Int), .int .u16 (ka : Int), .int .u16 (kb : Int)] 76)) := Ext.push _ _
  have w1 := E.cell (sp := none) (b := wb) (o := 0) (cellAt_lt hw) id
  have p1 := E.cell (sp := none) (b := g) (o := 1) (cellAt_lt hp) id
  have v1 := E.cell (sp := none) (b := vb) (o := 1) (cellAt_lt hv) id
  rw [hw] at w1
  rw [hp] at p1
  rw [hv] at v1
  have c0 : cellAt (h.push (.cells #[.int .u8 (tag : Int), str text, .int .u64 (bits : Int), .int .u16 (ka : Int), .int .u16 (kb : Int)] 76)) ⟨h.size, 0, none⟩ = some (.int .u8 (tag : Int)) := by rw [cellAt_push_new]; rfl
  have c3 : cellAt (h.push (.cells #[.int .u8 (tag : Int), str text, .int .u64 (bits : Int), .int .u16 (ka : Int), .int .u16 (kb : Int)] 76)) ⟨h.size, 3, none⟩ = some (.int .u16 (ka : Int)) := by rw [cellAt_push_new]; rfl
  have hs1 := hs.ext (by decide) E
  generalize hh : h.push (.cells #[.int .u8 (tag : Int), str text, .int .u64 (bits : Int), .int .u16 (ka : Int), .int .u16 (kb : Int)] 76) = h1 at *
  unfold hitS
  by_cases ht : tag = 7
  · subst ht
    rw [show ((7 : Nat) : Int) = 7 from rfl] at c0 hh
    rw [show ((7 : Nat) : Int) = 7 from rfl]
    simp (disch := first | omega | assumption) only [C.maps_wvalues_1_gos, vs, Go.Vc.vk, T.ts, ↓reduceIte, Nat.reduceEqDiff, reduceCtorEq, Nat.reduceLeDiff, Nat.reducePow, Int.reducePow, Int.reduceToNat, Nat.reduceAdd, hh, c0, c3, w1, p1, v1, Int.reduceEq, decide_true]
    refine eff_call_of ?_
    simp (disch := first | omega | assumption) only [C.maps_wvalues_1_gos, vs, Go.Vc.vk, T.ts, ↓reduceIte, Nat.reduceEqDiff, reduceCtorEq, Nat.reduceLeDiff, Nat.reducePow, Int.reducePow, Int.reduceToNat, Nat.reduceAdd]
    refine (is_any ka 1 hka hs1).mono ?_
    rintro v2 h2 ⟨rfl, rfl⟩
    by_cases hi : isS p ka 1 = true
    · rw [hi]
      simp (disch := first | omega | assumption) only [C.maps_wvalues_1_gos, vs, Go.Vc.vk, T.ts, ↓reduceIte, Nat.reduceEqDiff, reduceCtorEq, Nat.reduceLeDiff, Nat.reducePow, Int.reducePow, Int.reduceToNat, Nat.reduceAdd, c0, c3, w1, p1, v1, Int.reduceEq, decide_true]
      refine eff_call_of ?_
      simp (disch := first | omega | assumption) only [C.maps_wvalues_1_gos, vs, Go.Vc.vk, T.ts, ↓reduceIte, Nat.reduceEqDiff, reduceCtorEq, Nat.reduceLeDiff, Nat.reducePow, Int.reducePow, Int.reduceToNat, Nat.reduceAdd]
      refine (string_any ka hka hs1).mono ?_
      rintro v3 h3 ⟨rfl, rfl⟩
      rw [if_pos hi]
      simp (disch := first | omega | assumption) only [C.maps_wvalues_1_gos, vs, Go.Vc.vk, T.ts, ↓reduceIte, Nat.reduceEqDiff, reduceCtorEq, Nat.reduceLeDiff, Nat.reducePow, Int.reducePow, Int.reduceToNat, Nat.reduceAdd, c0, c3, w1, p1, v1, Int.reduceEq, decide_true]
      refine ⟨E, by simp [hi]⟩
    · have hi' : isS p ka 1 = false := by simpa using hi
      rw [hi']
      simp (disch := first | omega | assumption) only [C.maps_wvalues_1_gos, vs, Go.Vc.vk, T.ts, ↓reduceIte, Nat.reduceEqDiff, reduceCtorEq, Nat.reduceLeDiff, Nat.reducePow, Int.reducePow, Int.reduceToNat, Nat.reduceAdd, c0, c3, w1, p1, v1, Int.reduceEq, decide_true]
      refine ⟨E, by simp [hi']⟩
  · have ht' : ¬ (tag : Int) = 7 := by omega
    simp (disch := first | omega | assumption) only [C.maps_wvalues_1_gos, vs, Go.Vc.vk, T.ts, ↓reduceIte, Nat.reduceEqDiff, reduceCtorEq, Nat.reduceLeDiff, Nat.reducePow, Int.reducePow, Int.reduceToNat, Nat.reduceAdd, hh, c0, c3, w1, p1, v1, eq_false ht', decide_false]
    exact ⟨E, by simp [ht]⟩

theorem indexFunc_any {h : Heap} {q : List Cst} {vq : Value} {F : Nat} {cap : Array Value} (f : Cst → Bool) (hcal : callable Try.prog F = true) (hs : SlN h 5 vq q.length (flatS q)) (hlen : q.length ≤ 9223372036854775806)
    (hF : ∀ h', Ext h h' → ∀ c ∈ q, HCalls Try.prog F (Value.agg c.cells.toArray :: cap.toList).toArray h' fun v h'' => Ext h' h'' ∧ v = .bool (f c)) :
    HCalls Try.prog 87 #[vq, .func (.func F) #[] cap] h fun v h' => Ext h h' ∧ v = .int .i64 (idxS f q) := by
  refine C.slices_IndexFunc_calls (args := [vq, .func (.func F) #[] cap]) rfl ?_
  have hs' := hs
  obtain ⟨_, a, c, rfl, _⟩ := hs'
  simp (disch := first | omega | assumption) only [C.slices_IndexFunc_gos, vs, Go.Vc.vk, T.ts, ↓reduceIte, Nat.reduceEqDiff, reduceCtorEq, Nat.reduceLeDiff, Nat.reducePow, Int.reducePow, Int.reduceToNat, Nat.reduceAdd]
  refine loop_intro [0, 1, 7, 8] (fun m ρ hc => ∃ i : Nat, m = q.length - i ∧ i ≤ q.length ∧ ρ = [(0, .slice a q.length c), (1, .func (.func F) #[] cap), (7, .int .i64 q.length), (8, .int .i64 i)] ∧
    Ext h hc ∧ ∀ j, j < i → f (q.getD j Cst.zero) = false) ?_ ?_
  · simp (disch := first | omega | assumption) only [C.slices_IndexFunc_gos, vs, Go.Vc.vk, T.ts, ↓reduceIte, Nat.reduceEqDiff, reduceCtorEq, Nat.reduceLeDiff, Nat.reducePow, Int.reducePow, Int.reduceToNat, Nat.reduceAdd]
    exact ⟨_, 0, rfl, Nat.zero_le _, rfl, Ext.refl _, fun j hj => by omega⟩
  · rintro m ρ hc ⟨i, rfl, hi, rfl, hx, hno⟩
    rcases Nat.lt_or_ge i q.length with hlt | hge
    · have hlt' : (i : Int) < q.length := by omega
      obtain ⟨b, o, c', heq, hrd, _⟩ := (hs.ext (by decide) hx).at hlt
      cases heq
      rw [flatS_at hlt] at hrd
      have hFc := hF hc hx (q.getD i Cst.zero) (by simp [hlt])
      have hgl : f (q.getD i Cst.zero) = true → idxS f q = i := by
        intro hf
        unfold idxS
        have : q.findIdx? f = some i := by
          rw [List.findIdx?_eq_some_iff_getElem]
          refine ⟨hlt, by simpa [hlt] using hf, fun j hj => ?_⟩
          have := hno j hj
          have hjl : j < q.length := by omega
          simp [hjl] at this
          simp [this]
        rw [this]
      generalize hk : q.getD i Cst.zero = k at hFc hgl hrd
      have hld := ld_agg T.ag_76 hrd rfl
      simp (disch := first | omega | assumption) only [C.slices_IndexFunc_gos, vs, Go.Vc.vk, T.ts, ↓reduceIte, Nat.reduceEqDiff, reduceCtorEq, Nat.reduceLeDiff, Nat.reducePow, Int.reducePow, Int.reduceToNat, Nat.reduceAdd, hlt', hld]
      refine eff_call_of ?_
      simp (disch := first | omega | assumption) only [C.slices_IndexFunc_gos, vs, Go.Vc.vk, T.ts, ↓reduceIte, Nat.reduceEqDiff, reduceCtorEq, Nat.reduceLeDiff, Nat.reducePow, Int.reducePow, Int.reduceToNat, Nat.reduceAdd]
      refine ⟨hcal, hFc.mono ?_⟩
      rintro v1 h1 ⟨x1, rfl⟩
      cases hf : f k with
      | true =>
        simp (disch := first | omega | assumption) only [C.slices_IndexFunc_gos, vs, Go.Vc.vk, T.ts, ↓reduceIte, Nat.reduceEqDiff, reduceCtorEq, Nat.reduceLeDiff, Nat.reducePow, Int.reducePow, Int.reduceToNat, Nat.reduceAdd]
        exact ⟨hx.trans x1, by rw [hgl hf]⟩
      | false =>
        simp (disch := first | omega | assumption) only [C.slices_IndexFunc_gos, vs, Go.Vc.vk, T.ts, ↓reduceIte, Nat.reduceEqDiff, reduceCtorEq, Nat.reduceLeDiff, Nat.reducePow, Int.reducePow, Int.reduceToNat, Nat.reduceAdd]
        refine ⟨q.length - (i + 1), by omega, i + 1, rfl, by omega, by simp, hx.trans x1, fun j hj => ?_⟩
        rcases Nat.lt_or_ge j i with h' | h'
        · exact hno j h'
        · have : j = i := by omega
          subst this
          rw [hk]; exact hf
    · have hlt' : ¬ (i : Int) < q.length := by omega
      have : q.findIdx? f = none := by
        rw [List.findIdx?_eq_none_iff]
        intro x hx
        obtain ⟨j, hj, rfl⟩ := List.getElem_of_mem hx
        have := hno j (by omega)
        simpa [hj] using this
      simp (disch := first | omega | assumption) only [C.slices_IndexFunc_gos, vs, Go.Vc.vk, T.ts, ↓reduceIte, Nat.reduceEqDiff, reduceCtorEq, Nat.reduceLeDiff, Nat.reducePow, Int.reducePow, Int.reduceToNat, Nat.reduceAdd, hlt']
      exact ⟨hx, by rw [idxS, this]⟩
end Go.Proofs.Ytohkbpnblkkdgaa

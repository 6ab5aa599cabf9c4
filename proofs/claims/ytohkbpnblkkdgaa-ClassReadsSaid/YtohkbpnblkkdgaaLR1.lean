/- The reader of classes: attributes, whatever looks at them. -/
import Derived.Test.YtohkbpnblkkdgaaLQ
import Derived.Test.YtohkbpnblkkdgaaR2
import Derived.Test.YtohkbpnblkkdgaaB0
import Derived.Test.YtohkbpnblkkdgaaCz
namespace Go.Proofs.Ytohkbpnblkkdgaa
open Go.Vc
set_option maxRecDepth 100000
set_option linter.unusedSimpArgs false
set_option linter.unusedVariables false

/-- The reader of a class: its bytes' reader, and what is read. -/
def RdC (h : Heap) (g gr : Nat) (rc : List Value) : Prop := h[g]? = some (.cells (Value.pointer (some ⟨gr, 0, none⟩) :: rc).toArray 102 (0, 0))
theorem RdC.k0 {h : Heap} {g gr : Nat} {rc : List Value} (D : RdC h g gr rc) : cellAt h ⟨g, 0, none⟩ = some (.pointer (some ⟨gr, 0, none⟩)) := by rw [cellAt_of D]; rfl
abbrev FrR (gr : Nat) (h h' : Heap) : Prop := Fr (fun k => k = gr) h h'
theorem FrR.ext {gr : Nat} {h h' : Heap} (x : Ext h h') : FrR gr h h' := Fr.trans x (Ext.refl _) (fun _ _ h => h.elim) (fun _ _ h => h.elim)
theorem FrR.trans' {gr : Nat} {a b c : Heap} (H : FrR gr a b) (K : FrR gr b c) : FrR gr a c := Fr.trans H K (fun _ _ h => h) (fun _ _ h => h)
/-- What looking at an attribute leaves. -/
def TkP {σ : Type} (gr : Nat) (l : List UInt8) (I : σ → Heap → Prop) (x : σ) (s : RS) : Option (σ × RS) → Value → Heap → Prop
  | none => fun r h => r = .bool false ∧ I x h ∧ Rdr h gr l s
  | some y => fun r h => r = .bool true ∧ I y.1 h ∧ Rdr h gr l y.2
section
variable {h : Heap} {g gr : Nat} {rc : List Value} {l : List UInt8} {s : RS}
/-- An attribute that comes once: sb is where it is kept that it was seen. -/
theorem once_any (seen : Bool) (sb o q : Nat) (hr : RdC h g gr rc) (hs : cellAt h ⟨sb, o, none⟩ = some (.bool seen)) (hz : frozenAt h ⟨sb, o, none⟩ = false) (hne : sb ≠ gr) (H : Rdr h gr l s) :
    HCalls Try.prog 80 #[.pointer (some ⟨g, 0, none⟩), .pointer (some ⟨sb, o, none⟩), .int .i64 q] h fun _ h' => ∃ h1, FrR gr h h1 ∧ Rdr h1 gr l (onceR seen q s) ∧ h' = setAt h1 ⟨sb, o, none⟩ (.bool true) ∧ cellAt h1 ⟨sb, o, none⟩ = some (.bool seen) := by
  refine C.cr_once_calls (args := [.pointer (some ⟨g, 0, none⟩), .pointer (some ⟨sb, o, none⟩), .int .i64 q]) rfl ?_
  have k0 := hr.k0
  cases seen with
  | false =>
    simp (disch := first | omega | assumption) only [C.cr_once_gos, vs, Go.Vc.vk, T.ts, ↓reduceIte, Nat.reduceEqDiff, reduceCtorEq, Nat.reduceLeDiff, Nat.reducePow, Int.reducePow, Int.reduceToNat, Nat.reduceAdd, hs]
    refine eff_store1_z T.zr_4 rfl rfl rfl rfl rfl hs hz ?_
    simp (disch := first | omega | assumption) only [C.cr_once_gos, vs, Go.Vc.vk, T.ts, ↓reduceIte, Nat.reduceEqDiff, reduceCtorEq, Nat.reduceLeDiff, Nat.reducePow, Int.reducePow, Int.reduceToNat, Nat.reduceAdd]
    exact ⟨h, FrR.ext (Ext.refl _), H, rfl, hs⟩
  | true =>
    simp (disch := first | omega | assumption) only [C.cr_once_gos, vs, Go.Vc.vk, T.ts, ↓reduceIte, Nat.reduceEqDiff, reduceCtorEq, Nat.reduceLeDiff, Nat.reducePow, Int.reducePow, Int.reduceToNat, Nat.reduceAdd, hs, k0]
    refine eff_call_of ?_
    simp (disch := first | omega | assumption) only [C.cr_once_gos, vs, Go.Vc.vk, T.ts, ↓reduceIte, Nat.reduceEqDiff, reduceCtorEq, Nat.reduceLeDiff, Nat.reducePow, Int.reducePow, Int.reduceToNat, Nat.reduceAdd]
    refine (fail_any 11 q H).mono ?_
    rintro _ h1 ⟨f1, r1⟩
    have hlt := cellAt_lt hs
    have hb : h1[sb]? = h[sb]? := f1.same sb hlt hne
    have hs1 : cellAt h1 ⟨sb, o, none⟩ = some (.bool true) := by rw [cellAt_block hb]; exact hs
    have hz1 : frozenAt h1 ⟨sb, o, none⟩ = false := by rw [frozenAt_block hb]; exact hz
    simp (disch := first | omega | assumption) only [C.cr_once_gos, vs, Go.Vc.vk, T.ts, ↓reduceIte, Nat.reduceEqDiff, reduceCtorEq, Nat.reduceLeDiff, Nat.reducePow, Int.reducePow, Int.reduceToNat, Nat.reduceAdd]
    refine eff_store1_z T.zr_4 rfl rfl rfl rfl rfl hs1 hz1 ?_
    simp (disch := first | omega | assumption) only [C.cr_once_gos, vs, Go.Vc.vk, T.ts, ↓reduceIte, Nat.reduceEqDiff, reduceCtorEq, Nat.reduceLeDiff, Nat.reducePow, Int.reducePow, Int.reduceToNat, Nat.reduceAdd]
    exact ⟨h1, f1, r1, rfl, hs1⟩
set_option maxHeartbeats 4000000 in
theorem attributes_any {σ : Type} (p : List Cst) (vp : Value) (take : Take σ) (F : Nat) (cap : Array Value) (I : σ → Heap → Prop) (hl : l.length ≤ 1073741824) (hcal : callable Try.prog F = true)
    (hrc : rc[5]? = some vp) (hI1 : ∀ x h, I x h → RdC h g gr rc ∧ SlN h 5 vp p.length (flatS p)) (hI2 : ∀ x h h', I x h → FrR gr h h' → I x h')
    (hF : ∀ (h1 : Heap) (name : List UInt8) (q n : Nat) (x : σ) (s1 : RS), I x h1 → Rdr h1 gr l s1 → s1.e = 0 → q ≤ l.length → n < 4294967296 →
      HCalls Try.prog F (str name :: .int .i64 q :: .int .i64 n :: cap.toList).toArray h1 (TkP gr l I x s1 (take name q n x s1)))
    (x : σ) (hx : I x h) (H : Rdr h gr l s) :
    HCalls Try.prog 56 #[.pointer (some ⟨g, 0, none⟩), .func (.func F) #[] cap] h fun _ h' => I (attrsR p l take (numS l 2 s).1 x (numS l 2 s).2).1 h' ∧ Rdr h' gr l (attrsR p l take (numS l 2 s).1 x (numS l 2 s).2).2 := by
  refine C.cr_attributes_calls (args := [.pointer (some ⟨g, 0, none⟩), .func (.func F) #[] cap]) rfl ?_
  have k0 := (hI1 x h hx).1.k0
  simp (disch := first | omega | assumption) only [C.cr_attributes_gos, vs, Go.Vc.vk, T.ts, ↓reduceIte, Nat.reduceEqDiff, reduceCtorEq, Nat.reduceLeDiff, Nat.reducePow, Int.reducePow, Int.reduceToNat, Nat.reduceAdd, k0]
  refine eff_call_of ?_
  simp (disch := first | omega | assumption) only [C.cr_attributes_gos, vs, Go.Vc.vk, T.ts, ↓reduceIte, Nat.reduceEqDiff, reduceCtorEq, Nat.reduceLeDiff, Nat.reducePow, Int.reducePow, Int.reduceToNat, Nat.reduceAdd]
  refine (num_any 2 hl (by omega) H).mono ?_
  rintro _ h1 ⟨f1, r1, rfl⟩
  have hk := @numS_lt l 2 s
  have hx1 := hI2 x h h1 hx f1
  obtain ⟨K, hK⟩ : ∃ K, K = (numS l 2 s).1 := ⟨_, rfl⟩
  obtain ⟨s0, hs0⟩ : ∃ K, K = (numS l 2 s).2 := ⟨_, rfl⟩
  rw [← hK, ← hs0]
  rw [← hK] at hk
  rw [← hs0] at r1
  obtain ⟨R, hR⟩ : ∃ R, R = attrsR p l take K x s0 := ⟨_, rfl⟩
  rw [← hR]
  simp (disch := first | omega | assumption) only [C.cr_attributes_gos, vs, Go.Vc.vk, T.ts, ↓reduceIte, Nat.reduceEqDiff, reduceCtorEq, Nat.reduceLeDiff, Nat.reducePow, Int.reducePow, Int.reduceToNat, Nat.reduceAdd]
  refine loop_intro [0, 1, 4] (fun m ρ hc => ∃ (k : Nat) (y : σ) (t : RS), m = k ∧ k < 65536 ∧ ρ = [(0, .pointer (some ⟨g, 0, none⟩)), (1, .func (.func F) #[] cap), (4, .int .i64 k)] ∧ I y hc ∧ Rdr hc gr l t ∧ attrsR p l take k y t = R) ?_ ?_
  · simp (disch := first | omega | assumption) only [C.cr_attributes_gos, vs, Go.Vc.vk, T.ts, ↓reduceIte, Nat.reduceEqDiff, reduceCtorEq, Nat.reduceLeDiff, Nat.reducePow, Int.reducePow, Int.reduceToNat, Nat.reduceAdd]
    exact ⟨_, K, x, s0, rfl, by simpa using hk, rfl, hx1, r1, hR.symm⟩
  clear hx1 r1 hR f1 k0 hK hs0 hk H hx
  rintro m ρ hc ⟨k, y, t, rfl, hkk, rfl, hy, ht, hR⟩
  rcases Nat.eq_zero_or_pos m with h0 | hpos
  · subst h0
    simp (disch := first | omega | assumption) only [C.cr_attributes_gos, vs, Go.Vc.vk, T.ts, ↓reduceIte, Nat.reduceEqDiff, reduceCtorEq, Nat.reduceLeDiff, Nat.reducePow, Int.reducePow, Int.reduceToNat, Nat.reduceAdd, Int.ofNat_zero, Int.lt_irrefl]
    rw [← hR]
    exact ⟨hy, ht⟩
  have hpos' : (0 : Int) < (m : Int) := by omega
  have k0 := (hI1 y hc hy).1.k0
  simp (disch := first | omega | assumption) only [C.cr_attributes_gos, vs, Go.Vc.vk, T.ts, ↓reduceIte, Nat.reduceEqDiff, reduceCtorEq, Nat.reduceLeDiff, Nat.reducePow, Int.reducePow, Int.reduceToNat, Nat.reduceAdd, hpos', k0]
  refine eff_call_of ?_
  simp (disch := first | omega | assumption) only [C.cr_attributes_gos, vs, Go.Vc.vk, T.ts, ↓reduceIte, Nat.reduceEqDiff, reduceCtorEq, Nat.reduceLeDiff, Nat.reducePow, Int.reducePow, Int.reduceToNat, Nat.reduceAdd]
  refine (bad_any ht).mono ?_
  rintro _ ha ⟨rfl, rfl⟩
  by_cases he : t.e = 0
  case neg =>
    have he' : (decide (t.e ≠ 0)) = true := by simp [he]
    rw [attrsR_bad he] at hR
    simp (disch := first | omega | assumption) only [C.cr_attributes_gos, vs, Go.Vc.vk, T.ts, ↓reduceIte, Nat.reduceEqDiff, reduceCtorEq, Nat.reduceLeDiff, Nat.reducePow, Int.reducePow, Int.reduceToNat, Nat.reduceAdd, he']
    rw [← hR]
    exact ⟨hy, ht⟩
  have he' : (decide (t.e ≠ 0)) = false := by simp [he]
  obtain ⟨j, rfl⟩ : ∃ j, m = j + 1 := ⟨m - 1, by omega⟩
  simp (disch := first | omega | assumption) only [C.cr_attributes_gos, vs, Go.Vc.vk, T.ts, ↓reduceIte, Nat.reduceEqDiff, reduceCtorEq, Nat.reduceLeDiff, Nat.reducePow, Int.reducePow, Int.reduceToNat, Nat.reduceAdd, he', k0]
  refine eff_call_of ?_
  simp (disch := first | omega | assumption) only [C.cr_attributes_gos, vs, Go.Vc.vk, T.ts, ↓reduceIte, Nat.reduceEqDiff, reduceCtorEq, Nat.reduceLeDiff, Nat.reducePow, Int.reducePow, Int.reduceToNat, Nat.reduceAdd]
  refine (at_any ht).mono ?_
  rintro _ hb ⟨rfl, rfl⟩
  simp (disch := first | omega | assumption) only [C.cr_attributes_gos, vs, Go.Vc.vk, T.ts, ↓reduceIte, Nat.reduceEqDiff, reduceCtorEq, Nat.reduceLeDiff, Nat.reducePow, Int.reducePow, Int.reduceToNat, Nat.reduceAdd, k0]
  refine eff_call_of ?_
  simp (disch := first | omega | assumption) only [C.cr_attributes_gos, vs, Go.Vc.vk, T.ts, ↓reduceIte, Nat.reduceEqDiff, reduceCtorEq, Nat.reduceLeDiff, Nat.reducePow, Int.reducePow, Int.reduceToNat, Nat.reduceAdd]
  refine (index_any hl ht).mono ?_
  rintro _ h2 ⟨f2, r2, rfl⟩
  have ha16 := @numS_lt l 2 t
  simp only [Nat.reducePow] at ha16
  have y2 := hI2 y _ h2 hy f2
  have hpl := ht.2
  have k6 : ∀ h, I y h → cellAt h ⟨g, 6, none⟩ = some vp := fun h hh => by
    have := (hI1 y h hh).1
    rw [cellAt_of this]
    simpa using hrc
  have k02 := (hI1 y h2 y2).1.k0
  have k62 := k6 h2 y2
  simp (disch := first | omega | assumption) only [C.cr_attributes_gos, vs, Go.Vc.vk, T.ts, ↓reduceIte, Nat.reduceEqDiff, reduceCtorEq, Nat.reduceLeDiff, Nat.reducePow, Int.reducePow, Int.reduceToNat, Nat.reduceAdd, k02, k62]
  refine eff_call_of ?_
  simp (disch := first | omega | assumption) only [C.cr_attributes_gos, vs, Go.Vc.vk, T.ts, ↓reduceIte, Nat.reduceEqDiff, reduceCtorEq, Nat.reduceLeDiff, Nat.reducePow, Int.reducePow, Int.reduceToNat, Nat.reduceAdd]
  refine (is_any (numS l 2 t).1 1 ha16 (hI1 y h2 y2).2).mono ?_
  rintro _ hd ⟨rfl, rfl⟩
  clear hy ht f2 k0
  rw [attrsR, if_neg (by simp [he])] at hR
  obtain ⟨s2, hs2⟩ : ∃ s2, s2 = (if isS p (numS l 2 t).1 1 = true then (numS l 2 t).2 else failS 7 t.p (numS l 2 t).2) := ⟨_, rfl⟩
  rw [← hs2] at hR
  refine Or.elim (Classical.em (isS p (numS l 2 t).1 1 = true)) (fun his => ?caA) (fun his => ?cbA)
  case' caA =>
    rw [if_pos his] at hs2
    simp (disch := first | omega | assumption) only [C.cr_attributes_gos, vs, Go.Vc.vk, T.ts, ↓reduceIte, Nat.reduceEqDiff, reduceCtorEq, Nat.reduceLeDiff, Nat.reducePow, Int.reducePow, Int.reduceToNat, Nat.reduceAdd, his]
    obtain ⟨h3, hh3⟩ : ∃ h3, h3 = hd := ⟨_, rfl⟩
    rw [← hh3]
    have y3 : I y h3 := by rw [hh3]; exact y2
    have r3 : Rdr h3 gr l s2 := by rw [hh3, hs2]; exact r2
    clear hh3
  case' cbA =>
    rw [if_neg his] at hs2
    have his' : isS p (numS l 2 t).1 1 = false := by simpa using his
    simp (disch := first | omega | assumption) only [C.cr_attributes_gos, vs, Go.Vc.vk, T.ts, ↓reduceIte, Nat.reduceEqDiff, reduceCtorEq, Nat.reduceLeDiff, Nat.reducePow, Int.reducePow, Int.reduceToNat, Nat.reduceAdd, his', k02]
    refine eff_call_of ?_
    simp (disch := first | omega | assumption) only [C.cr_attributes_gos, vs, Go.Vc.vk, T.ts, ↓reduceIte, Nat.reduceEqDiff, reduceCtorEq, Nat.reduceLeDiff, Nat.reducePow, Int.reducePow, Int.reduceToNat, Nat.reduceAdd]
    refine (fail_any 7 t.p r2).mono ?_
    rintro _ h3 ⟨f3, r3⟩
    have y3 := hI2 y _ h3 y2 f3
    rw [← hs2] at r3
    clear f3 his'
  all_goals
    clear y2 r2 k02 k62 his
    have k03 := (hI1 y h3 y3).1.k0
    simp (disch := first | omega | assumption) only [C.cr_attributes_gos, vs, Go.Vc.vk, T.ts, ↓reduceIte, Nat.reduceEqDiff, reduceCtorEq, Nat.reduceLeDiff, Nat.reducePow, Int.reducePow, Int.reduceToNat, Nat.reduceAdd, k03]
    refine eff_call_of ?_
    simp (disch := first | omega | assumption) only [C.cr_attributes_gos, vs, Go.Vc.vk, T.ts, ↓reduceIte, Nat.reduceEqDiff, reduceCtorEq, Nat.reduceLeDiff, Nat.reducePow, Int.reducePow, Int.reduceToNat, Nat.reduceAdd]
    refine (num_any 4 hl (by omega) r3).mono ?_
    rintro _ h4 ⟨f4, r4, rfl⟩
    have y4 := hI2 y _ h4 y3 f4
    have hn4 := @numS_lt l 4 s2
    simp only [Nat.reducePow] at hn4
    generalize numS l 4 s2 = b at *
    have k04 := (hI1 y h4 y4).1.k0
    have k64 := k6 h4 y4
    clear f4 y3 r3 k03
    simp (disch := first | omega | assumption) only [C.cr_attributes_gos, vs, Go.Vc.vk, T.ts, ↓reduceIte, Nat.reduceEqDiff, reduceCtorEq, Nat.reduceLeDiff, Nat.reducePow, Int.reducePow, Int.reduceToNat, Nat.reduceAdd, k04]
    refine eff_call_of ?_
    simp (disch := first | omega | assumption) only [C.cr_attributes_gos, vs, Go.Vc.vk, T.ts, ↓reduceIte, Nat.reduceEqDiff, reduceCtorEq, Nat.reduceLeDiff, Nat.reducePow, Int.reducePow, Int.reduceToNat, Nat.reduceAdd]
    refine (at_any r4).mono ?_
    rintro _ h5 ⟨rfl, rfl⟩
    simp (disch := first | omega | assumption) only [C.cr_attributes_gos, vs, Go.Vc.vk, T.ts, ↓reduceIte, Nat.reduceEqDiff, reduceCtorEq, Nat.reduceLeDiff, Nat.reducePow, Int.reducePow, Int.reduceToNat, Nat.reduceAdd, k04]
    refine eff_call_of ?_
    simp (disch := first | omega | assumption) only [C.cr_attributes_gos, vs, Go.Vc.vk, T.ts, ↓reduceIte, Nat.reduceEqDiff, reduceCtorEq, Nat.reduceLeDiff, Nat.reducePow, Int.reducePow, Int.reduceToNat, Nat.reduceAdd]
    refine (bad_any r4).mono ?_
    rintro _ h6 ⟨rfl, rfl⟩
    by_cases he4 : b.2.e = 0
    case neg =>
      have he4' : (decide (b.2.e ≠ 0)) = true := by simp [he4]
      rw [if_pos (by simpa using he4)] at hR
      simp (disch := first | omega | assumption) only [C.cr_attributes_gos, vs, Go.Vc.vk, T.ts, ↓reduceIte, Nat.reduceEqDiff, reduceCtorEq, Nat.reduceLeDiff, Nat.reducePow, Int.reducePow, Int.reduceToNat, Nat.reduceAdd, he4']
      rw [← hR]
      exact ⟨y4, r4⟩
    have he4' : (decide (b.2.e ≠ 0)) = false := by simp [he4]
    rw [if_neg (by simp [he4])] at hR
    simp (disch := first | omega | assumption) only [C.cr_attributes_gos, vs, Go.Vc.vk, T.ts, ↓reduceIte, Nat.reduceEqDiff, reduceCtorEq, Nat.reduceLeDiff, Nat.reducePow, Int.reducePow, Int.reduceToNat, Nat.reduceAdd, he4', k64]
    refine eff_call_of ?_
    simp (disch := first | omega | assumption) only [C.cr_attributes_gos, vs, Go.Vc.vk, T.ts, ↓reduceIte, Nat.reduceEqDiff, reduceCtorEq, Nat.reduceLeDiff, Nat.reducePow, Int.reducePow, Int.reduceToNat, Nat.reduceAdd]
    refine (string_any (numS l 2 t).1 ha16 (hI1 y _ y4).2).mono ?_
    rintro _ h7 ⟨rfl, rfl⟩
    change (match take (strS p (numS l 2 t).1) t.p b.1 y b.2 with | none => _ | some y => _) = R at hR
    have hstr : (if isS p (numS l 2 t).1 1 = true then (p.getD (numS l 2 t).1 Cst.zero).text else []) = strS p (numS l 2 t).1 := rfl
    rw [hstr]
    have hcall := hF h7 (strS p (numS l 2 t).1) t.p b.1 y b.2 y4 r4 he4 hpl hn4
    simp (disch := first | omega | assumption) only [C.cr_attributes_gos, vs, Go.Vc.vk, T.ts, ↓reduceIte, Nat.reduceEqDiff, reduceCtorEq, Nat.reduceLeDiff, Nat.reducePow, Int.reducePow, Int.reduceToNat, Nat.reduceAdd]
    refine eff_call_of ?_
    simp (disch := first | omega | assumption) only [C.cr_attributes_gos, vs, Go.Vc.vk, T.ts, ↓reduceIte, Nat.reduceEqDiff, reduceCtorEq, Nat.reduceLeDiff, Nat.reducePow, Int.reducePow, Int.reduceToNat, Nat.reduceAdd]
    refine ⟨hcal, ?_⟩
    cases hT : take (strS p (numS l 2 t).1) t.p b.1 y b.2 with
    | none =>
      simp only [hT, TkP] at hcall hR
      refine hcall.mono ?_
      rintro _ h8 ⟨rfl, y8, r8⟩
      have k08 := (hI1 y h8 y8).1.k0
      simp (disch := first | omega | assumption) only [C.cr_attributes_gos, vs, Go.Vc.vk, T.ts, ↓reduceIte, Nat.reduceEqDiff, reduceCtorEq, Nat.reduceLeDiff, Nat.reducePow, Int.reducePow, Int.reduceToNat, Nat.reduceAdd, k08]
      refine eff_call_of ?_
      simp (disch := first | omega | assumption) only [C.cr_attributes_gos, vs, Go.Vc.vk, T.ts, ↓reduceIte, Nat.reduceEqDiff, reduceCtorEq, Nat.reduceLeDiff, Nat.reducePow, Int.reducePow, Int.reduceToNat, Nat.reduceAdd]
      refine (take_any b.1 hl (by omega) r8).mono ?_
      rintro _ h9 ⟨f9, r9, _⟩
      have y9 := hI2 y _ h9 y8 f9
      have hw : IntKind.i64.wrap (((j + 1 : Nat) : Int) - 1) = (j : Int) := by rw [wrap_i64 (by omega) (by omega)]; omega
      simp (disch := first | omega | assumption) only [C.cr_attributes_gos, vs, Go.Vc.vk, T.ts, ↓reduceIte, Nat.reduceEqDiff, reduceCtorEq, Nat.reduceLeDiff, Nat.reducePow, Int.reducePow, Int.reduceToNat, Nat.reduceAdd, hw]
      exact ⟨_, by omega, j, y, _, rfl, by omega, rfl, y9, r9, hR⟩
    | some z =>
      obtain ⟨z, u⟩ := z
      simp only [hT, TkP] at hcall hR
      refine hcall.mono ?_
      rintro _ h8 ⟨rfl, y8, r8⟩
      have k08 := (hI1 z h8 y8).1.k0
      simp (disch := first | omega | assumption) only [C.cr_attributes_gos, vs, Go.Vc.vk, T.ts, ↓reduceIte, Nat.reduceEqDiff, reduceCtorEq, Nat.reduceLeDiff, Nat.reducePow, Int.reducePow, Int.reduceToNat, Nat.reduceAdd, k08]
      refine eff_call_of ?_
      simp (disch := first | omega | assumption) only [C.cr_attributes_gos, vs, Go.Vc.vk, T.ts, ↓reduceIte, Nat.reduceEqDiff, reduceCtorEq, Nat.reduceLeDiff, Nat.reducePow, Int.reducePow, Int.reduceToNat, Nat.reduceAdd]
      refine (at_any r8).mono ?_
      rintro _ h9 ⟨rfl, rfl⟩
      have q1 := r8.2
      have q2 := r4.2
      have hw0 : IntKind.i64.wrap ((u.p : Int) - (b.2.p : Int)) = (u.p : Int) - (b.2.p : Int) := wrap_i64 (by omega) (by omega)
      have hw : IntKind.i64.wrap (((j + 1 : Nat) : Int) - 1) = (j : Int) := by rw [wrap_i64 (by omega) (by omega)]; omega
      by_cases hp : u.p = b.2.p + b.1
      · rw [if_pos hp] at hR
        have hp' : (u.p : Int) - (b.2.p : Int) = (b.1 : Int) := by omega
        simp (disch := first | omega | assumption) only [C.cr_attributes_gos, vs, Go.Vc.vk, T.ts, ↓reduceIte, Nat.reduceEqDiff, reduceCtorEq, Nat.reduceLeDiff, Nat.reducePow, Int.reducePow, Int.reduceToNat, Nat.reduceAdd, hw0, eq_true hp', hw]
        exact ⟨_, by omega, j, z, _, rfl, by omega, rfl, y8, r8, hR⟩
      · rw [if_neg hp] at hR
        have hp' : ¬ (u.p : Int) - (b.2.p : Int) = (b.1 : Int) := by omega
        simp (disch := first | omega | assumption) only [C.cr_attributes_gos, vs, Go.Vc.vk, T.ts, ↓reduceIte, Nat.reduceEqDiff, reduceCtorEq, Nat.reduceLeDiff, Nat.reducePow, Int.reducePow, Int.reduceToNat, Nat.reduceAdd, hw0, eq_false hp', k08]
        refine eff_call_of ?_
        simp (disch := first | omega | assumption) only [C.cr_attributes_gos, vs, Go.Vc.vk, T.ts, ↓reduceIte, Nat.reduceEqDiff, reduceCtorEq, Nat.reduceLeDiff, Nat.reducePow, Int.reducePow, Int.reduceToNat, Nat.reduceAdd]
        refine (fail_any 12 t.p r8).mono ?_
        rintro _ h10 ⟨f10, r10⟩
        have y10 := hI2 z _ h10 y8 f10
        simp (disch := first | omega | assumption) only [C.cr_attributes_gos, vs, Go.Vc.vk, T.ts, ↓reduceIte, Nat.reduceEqDiff, reduceCtorEq, Nat.reduceLeDiff, Nat.reducePow, Int.reducePow, Int.reduceToNat, Nat.reduceAdd, hw]
        exact ⟨_, by omega, j, z, _, rfl, by omega, rfl, y10, r10, hR⟩
end
end Go.Proofs.Ytohkbpnblkkdgaa

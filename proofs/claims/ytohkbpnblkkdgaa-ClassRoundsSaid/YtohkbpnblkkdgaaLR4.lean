/- The reader of classes: attributes, whatever looks at them. The reader of classes: fields. The reader of classes: code. The reader of classes: methods. -/
import Derived.Test.YtohkbpnblkkdgaaLQ
import Derived.Test.YtohkbpnblkkdgaaR2
import Derived.Test.YtohkbpnblkkdgaaB0
import Derived.Test.YtohkbpnblkkdgaaCz
import Derived.Test.YtohkbpnblkkdgaaVcS
import Derived.Test.YtohkbpnblkkdgaaLO
namespace Go.Proofs.Ytohkbpnblkkdgaa
open Go.Vc
set_option maxRecDepth 100000
set_option linter.unusedSimpArgs false
set_option linter.unusedVariables false

/-- The reader of a class: its bytes' reader, and what is read. -/
def RdC (h : Heap) (g gr : Nat) (rc : List Value) : Prop := h[g]? = some (.cells (Value.pointer (some ⟨gr, 0, none⟩) :: rc).toArray 102 (0, 0))
theorem RdC.k0 {h : Heap} {g gr : Nat} {rc : List Value} (D : RdC h g gr rc) : cellAt h ⟨g, 0, none⟩ = some (.pointer (some ⟨gr, 0, none⟩)) := by rw [cellAt_of D]; rfl
abbrev FrR (gr : Nat) (h h' : Heap) : Prop := Fr (fun k => k = gr) h h'
theorem FrR.ext {gr : Nat} {h h' : Heap} (x : Ext h h') : FrR gr h h' := Fr.trans x (Ext.refl _) (fun _ _ h => h.elim) (fun _ _ h => h.elim)
theorem FrR.trans' {gr : Nat} {a b c : Heap} (H : FrR gr a b) (K : FrR gr b c) : FrR gr a c := Fr.trans H K (fun _ _ h => h) (fun _ _ h => h)
/-- What looking at an attribute leaves. -/
def TkP {σ : Type} (gr : Nat) (l : List UInt8) (I : σ → Heap → Prop) (x : σ) (s : RS) : Option (σ × RS) → Value → Heap → Prop
  | none => fun r h => r = .bool false ∧ I x h ∧ Rdr h gr l s
  | some y => fun r h => r = .bool true ∧ I y.1 h ∧ Rdr h gr l y.2
section
variable {h : Heap} {g gr : Nat} {rc : List Value} {l : List UInt8} {s : RS}
/-- An attribute that comes once: sb is where it is kept that it was seen. -/
theorem once_any (seen : Bool) (sb o q : Nat) (hr : RdC h g gr rc) (hs : cellAt h ⟨sb, o, none⟩ = some (.bool seen)) (hz : frozenAt h ⟨sb, o, none⟩ = false) (hne : sb ≠ gr) (H : Rdr h gr l s) :
    HCalls Try.prog 80 #[.pointer (some ⟨g, 0, none⟩), .pointer (some ⟨sb, o, none⟩), .int .i64 q] h fun _ h' => ∃ h1, FrR gr h h1 ∧ Rdr h1 gr l (onceR seen q s) ∧ h' = setAt h1 ⟨sb, o, none⟩ (.bool true) ∧ cellAt h1 ⟨sb, o, none⟩ = some (.bool seen) := by
  refine C.cr_once_calls (args := [.pointer (some ⟨g, 0, none⟩), .pointer (some ⟨sb, o, none⟩), .int .i64 q]) rfl ?_
  have k0 := hr.k0
  cases seen with
  | false =>
    simp (disch := first | omega | assumption) only [C.cr_once_gos, T.tv, ↓reduceIte, Nat.reduceEqDiff, reduceCtorEq, Nat.reduceLeDiff, Nat.reducePow, Int.reducePow, Int.reduceToNat, Nat.reduceAdd, hs]
    refine eff_store1_z T.zr_4 rfl rfl rfl rfl rfl hs hz ?_
    simp (disch := first | omega | assumption) only [C.cr_once_gos, T.tv, ↓reduceIte, Nat.reduceEqDiff, reduceCtorEq, Nat.reduceLeDiff, Nat.reducePow, Int.reducePow, Int.reduceToNat, Nat.reduceAdd]
    exact ⟨h, FrR.ext (Ext.refl _), H, rfl, hs⟩
  | true =>
    simp (disch := first | omega | assumption) only [C.cr_once_gos, T.tv, ↓reduceIte, Nat.reduceEqDiff, reduceCtorEq, Nat.reduceLeDiff, Nat.reducePow, Int.reducePow, Int.reduceToNat, Nat.reduceAdd, hs, k0]
    refine eff_callF rfl ((fail_any 11 q H).mono ?_)
    rintro _ h1 ⟨f1, r1⟩
    have hlt := cellAt_lt hs
    have hb : h1[sb]? = h[sb]? := f1.same sb hlt hne
    have hs1 : cellAt h1 ⟨sb, o, none⟩ = some (.bool true) := by rw [cellAt_block hb]; exact hs
    have hz1 : frozenAt h1 ⟨sb, o, none⟩ = false := by rw [frozenAt_block hb]; exact hz
    simp (disch := first | omega | assumption) only [C.cr_once_gos, T.tv, ↓reduceIte, Nat.reduceEqDiff, reduceCtorEq, Nat.reduceLeDiff, Nat.reducePow, Int.reducePow, Int.reduceToNat, Nat.reduceAdd]
    refine eff_store1_z T.zr_4 rfl rfl rfl rfl rfl hs1 hz1 ?_
    simp (disch := first | omega | assumption) only [C.cr_once_gos, T.tv, ↓reduceIte, Nat.reduceEqDiff, reduceCtorEq, Nat.reduceLeDiff, Nat.reducePow, Int.reducePow, Int.reduceToNat, Nat.reduceAdd]
    exact ⟨h1, f1, r1, rfl, hs1⟩
set_option maxHeartbeats 4000000 in
theorem attributes_any {σ : Type} (p : List Cst) (vp : Value) (take : Take σ) (F : Nat) (cap : Array Value) (I : σ → Heap → Prop) (hl : l.length ≤ 1073741824) (hcal : callable Try.prog F = true)
    (hrc : rc[5]? = some vp) (hI1 : ∀ x h, I x h → RdC h g gr rc ∧ SlN h 5 vp p.length (flatS p)) (hI2 : ∀ x h h', I x h → FrR gr h h' → I x h')
    (hF : ∀ (h1 : Heap) (name : List UInt8) (q n : Nat) (x : σ) (s1 : RS), I x h1 → Rdr h1 gr l s1 → s1.e = 0 → q ≤ l.length → n < 4294967296 →
      HCalls Try.prog F (str name :: .int .i64 q :: .int .i64 n :: cap.toList).toArray h1 (TkP gr l I x s1 (take name q n x s1)))
    (x : σ) (hx : I x h) (H : Rdr h gr l s) :
    HCalls Try.prog 56 #[.pointer (some ⟨g, 0, none⟩), .func (.func F) #[] cap] h fun _ h' => I (attrsR p l take (numS l 2 s).1 x (numS l 2 s).2).1 h' ∧ Rdr h' gr l (attrsR p l take (numS l 2 s).1 x (numS l 2 s).2).2 := by
  refine C.cr_attributes_calls (args := [.pointer (some ⟨g, 0, none⟩), .func (.func F) #[] cap]) rfl ?_
  have k0 := (hI1 x h hx).1.k0
  simp (disch := first | omega | assumption) only [C.cr_attributes_gos, T.tv, ↓reduceIte, Nat.reduceEqDiff, reduceCtorEq, Nat.reduceLeDiff, Nat.reducePow, Int.reducePow, Int.reduceToNat, Nat.reduceAdd, k0]
  refine eff_callF rfl ((num_any 2 hl (by omega) H).mono ?_)
  rintro _ h1 ⟨f1, r1, rfl⟩
  have hk := @numS_lt l 2 s
  have hx1 := hI2 x h h1 hx f1
  obtain ⟨K, hK⟩ : ∃ K, K = (numS l 2 s).1 := ⟨_, rfl⟩
  obtain ⟨s0, hs0⟩ : ∃ K, K = (numS l 2 s).2 := ⟨_, rfl⟩
  rw [← hK, ← hs0]
  rw [← hK] at hk
  rw [← hs0] at r1
  obtain ⟨R, hR⟩ : ∃ R, R = attrsR p l take K x s0 := ⟨_, rfl⟩
  rw [← hR]
  simp (disch := first | omega | assumption) only [C.cr_attributes_gos, T.tv, ↓reduceIte, Nat.reduceEqDiff, reduceCtorEq, Nat.reduceLeDiff, Nat.reducePow, Int.reducePow, Int.reduceToNat, Nat.reduceAdd]
  refine loop_intro [0, 1, 4] (fun m ρ hc => ∃ (k : Nat) (y : σ) (t : RS), m = k ∧ k < 65536 ∧ ρ = [(0, .pointer (some ⟨g, 0, none⟩)), (1, .func (.func F) #[] cap), (4, .int .i64 k)] ∧ I y hc ∧ Rdr hc gr l t ∧ attrsR p l take k y t = R) ?_ ?_
  · simp (disch := first | omega | assumption) only [C.cr_attributes_gos, T.tv, ↓reduceIte, Nat.reduceEqDiff, reduceCtorEq, Nat.reduceLeDiff, Nat.reducePow, Int.reducePow, Int.reduceToNat, Nat.reduceAdd]
    exact ⟨_, K, x, s0, rfl, by simpa using hk, rfl, hx1, r1, hR.symm⟩
  clear hx1 r1 hR f1 k0 hK hs0 hk H hx
  rintro m ρ hc ⟨k, y, t, rfl, hkk, rfl, hy, ht, hR⟩
  rcases Nat.eq_zero_or_pos m with h0 | hpos
  · subst h0
    simp (disch := first | omega | assumption) only [C.cr_attributes_gos, T.tv, ↓reduceIte, Nat.reduceEqDiff, reduceCtorEq, Nat.reduceLeDiff, Nat.reducePow, Int.reducePow, Int.reduceToNat, Nat.reduceAdd, Int.ofNat_zero, Int.lt_irrefl]
    rw [← hR]
    exact ⟨hy, ht⟩
  have hpos' : (0 : Int) < (m : Int) := by omega
  have k0 := (hI1 y hc hy).1.k0
  simp (disch := first | omega | assumption) only [C.cr_attributes_gos, T.tv, ↓reduceIte, Nat.reduceEqDiff, reduceCtorEq, Nat.reduceLeDiff, Nat.reducePow, Int.reducePow, Int.reduceToNat, Nat.reduceAdd, hpos', k0]
  refine eff_callF rfl ((bad_any ht).mono ?_)
  rintro _ ha ⟨rfl, rfl⟩
  by_cases he : t.e = 0
  case neg =>
    have he' : (decide (t.e ≠ 0)) = true := by simp [he]
    rw [attrsR_bad he] at hR
    simp (disch := first | omega | assumption) only [C.cr_attributes_gos, T.tv, ↓reduceIte, Nat.reduceEqDiff, reduceCtorEq, Nat.reduceLeDiff, Nat.reducePow, Int.reducePow, Int.reduceToNat, Nat.reduceAdd, he']
    rw [← hR]
    exact ⟨hy, ht⟩
  have he' : (decide (t.e ≠ 0)) = false := by simp [he]
  obtain ⟨j, rfl⟩ : ∃ j, m = j + 1 := ⟨m - 1, by omega⟩
  simp (disch := first | omega | assumption) only [C.cr_attributes_gos, T.tv, ↓reduceIte, Nat.reduceEqDiff, reduceCtorEq, Nat.reduceLeDiff, Nat.reducePow, Int.reducePow, Int.reduceToNat, Nat.reduceAdd, he', k0]
  refine eff_callF rfl ((at_any ht).mono ?_)
  rintro _ hb ⟨rfl, rfl⟩
  simp (disch := first | omega | assumption) only [C.cr_attributes_gos, T.tv, ↓reduceIte, Nat.reduceEqDiff, reduceCtorEq, Nat.reduceLeDiff, Nat.reducePow, Int.reducePow, Int.reduceToNat, Nat.reduceAdd, k0]
  refine eff_callF rfl ((index_any hl ht).mono ?_)
  rintro _ h2 ⟨f2, r2, rfl⟩
  have ha16 := @numS_lt l 2 t
  simp only [Nat.reducePow] at ha16
  have y2 := hI2 y _ h2 hy f2
  have hpl := ht.2
  have k6 : ∀ h, I y h → cellAt h ⟨g, 6, none⟩ = some vp := fun h hh => by
    have := (hI1 y h hh).1
    rw [cellAt_of this]
    simpa using hrc
  have k02 := (hI1 y h2 y2).1.k0
  have k62 := k6 h2 y2
  simp (disch := first | omega | assumption) only [C.cr_attributes_gos, T.tv, ↓reduceIte, Nat.reduceEqDiff, reduceCtorEq, Nat.reduceLeDiff, Nat.reducePow, Int.reducePow, Int.reduceToNat, Nat.reduceAdd, k02, k62]
  refine eff_callF rfl ((is_any (numS l 2 t).1 1 ha16 (hI1 y h2 y2).2).mono ?_)
  rintro _ hd ⟨rfl, rfl⟩
  clear hy ht f2 k0
  rw [attrsR, if_neg (by simp [he])] at hR
  obtain ⟨s2, hs2⟩ : ∃ s2, s2 = (if isS p (numS l 2 t).1 1 = true then (numS l 2 t).2 else failS 7 t.p (numS l 2 t).2) := ⟨_, rfl⟩
  rw [← hs2] at hR
  refine Or.elim (Classical.em (isS p (numS l 2 t).1 1 = true)) (fun his => ?caA) (fun his => ?cbA)
  case' caA =>
    rw [if_pos his] at hs2
    simp (disch := first | omega | assumption) only [C.cr_attributes_gos, T.tv, ↓reduceIte, Nat.reduceEqDiff, reduceCtorEq, Nat.reduceLeDiff, Nat.reducePow, Int.reducePow, Int.reduceToNat, Nat.reduceAdd, his]
    obtain ⟨h3, hh3⟩ : ∃ h3, h3 = hd := ⟨_, rfl⟩
    rw [← hh3]
    have y3 : I y h3 := by rw [hh3]; exact y2
    have r3 : Rdr h3 gr l s2 := by rw [hh3, hs2]; exact r2
    clear hh3
  case' cbA =>
    rw [if_neg his] at hs2
    have his' : isS p (numS l 2 t).1 1 = false := by simpa using his
    simp (disch := first | omega | assumption) only [C.cr_attributes_gos, T.tv, ↓reduceIte, Nat.reduceEqDiff, reduceCtorEq, Nat.reduceLeDiff, Nat.reducePow, Int.reducePow, Int.reduceToNat, Nat.reduceAdd, his', k02]
    refine eff_callF rfl ((fail_any 7 t.p r2).mono ?_)
    rintro _ h3 ⟨f3, r3⟩
    have y3 := hI2 y _ h3 y2 f3
    rw [← hs2] at r3
    clear f3 his'
  all_goals
    clear y2 r2 k02 k62 his
    have k03 := (hI1 y h3 y3).1.k0
    simp (disch := first | omega | assumption) only [C.cr_attributes_gos, T.tv, ↓reduceIte, Nat.reduceEqDiff, reduceCtorEq, Nat.reduceLeDiff, Nat.reducePow, Int.reducePow, Int.reduceToNat, Nat.reduceAdd, k03]
    refine eff_callF rfl ((num_any 4 hl (by omega) r3).mono ?_)
    rintro _ h4 ⟨f4, r4, rfl⟩
    have y4 := hI2 y _ h4 y3 f4
    have hn4 := @numS_lt l 4 s2
    simp only [Nat.reducePow] at hn4
    generalize numS l 4 s2 = b at *
    have k04 := (hI1 y h4 y4).1.k0
    have k64 := k6 h4 y4
    clear f4 y3 r3 k03
    simp (disch := first | omega | assumption) only [C.cr_attributes_gos, T.tv, ↓reduceIte, Nat.reduceEqDiff, reduceCtorEq, Nat.reduceLeDiff, Nat.reducePow, Int.reducePow, Int.reduceToNat, Nat.reduceAdd, k04]
    refine eff_callF rfl ((at_any r4).mono ?_)
    rintro _ h5 ⟨rfl, rfl⟩
    simp (disch := first | omega | assumption) only [C.cr_attributes_gos, T.tv, ↓reduceIte, Nat.reduceEqDiff, reduceCtorEq, Nat.reduceLeDiff, Nat.reducePow, Int.reducePow, Int.reduceToNat, Nat.reduceAdd, k04]
    refine eff_callF rfl ((bad_any r4).mono ?_)
    rintro _ h6 ⟨rfl, rfl⟩
    by_cases he4 : b.2.e = 0
    case neg =>
      have he4' : (decide (b.2.e ≠ 0)) = true := by simp [he4]
      rw [if_pos (by simpa using he4)] at hR
      simp (disch := first | omega | assumption) only [C.cr_attributes_gos, T.tv, ↓reduceIte, Nat.reduceEqDiff, reduceCtorEq, Nat.reduceLeDiff, Nat.reducePow, Int.reducePow, Int.reduceToNat, Nat.reduceAdd, he4']
      rw [← hR]
      exact ⟨y4, r4⟩
    have he4' : (decide (b.2.e ≠ 0)) = false := by simp [he4]
    rw [if_neg (by simp [he4])] at hR
    simp (disch := first | omega | assumption) only [C.cr_attributes_gos, T.tv, ↓reduceIte, Nat.reduceEqDiff, reduceCtorEq, Nat.reduceLeDiff, Nat.reducePow, Int.reducePow, Int.reduceToNat, Nat.reduceAdd, he4', k64]
    refine eff_callF rfl ((string_any (numS l 2 t).1 ha16 (hI1 y _ y4).2).mono ?_)
    rintro _ h7 ⟨rfl, rfl⟩
    change (match take (strS p (numS l 2 t).1) t.p b.1 y b.2 with | none => _ | some y => _) = R at hR
    have hstr : (if isS p (numS l 2 t).1 1 = true then (p.getD (numS l 2 t).1 Cst.zero).text else []) = strS p (numS l 2 t).1 := rfl
    rw [hstr]
    have hcall := hF h7 (strS p (numS l 2 t).1) t.p b.1 y b.2 y4 r4 he4 hpl hn4
    simp (disch := first | omega | assumption) only [C.cr_attributes_gos, T.tv, ↓reduceIte, Nat.reduceEqDiff, reduceCtorEq, Nat.reduceLeDiff, Nat.reducePow, Int.reducePow, Int.reduceToNat, Nat.reduceAdd]
    refine eff_call_of ?_
    simp (disch := first | omega | assumption) only [C.cr_attributes_gos, T.tv, ↓reduceIte, Nat.reduceEqDiff, reduceCtorEq, Nat.reduceLeDiff, Nat.reducePow, Int.reducePow, Int.reduceToNat, Nat.reduceAdd]
    refine ⟨hcal, ?_⟩
    cases hT : take (strS p (numS l 2 t).1) t.p b.1 y b.2 with
    | none =>
      simp only [hT, TkP] at hcall hR
      refine hcall.mono ?_
      rintro _ h8 ⟨rfl, y8, r8⟩
      have k08 := (hI1 y h8 y8).1.k0
      simp (disch := first | omega | assumption) only [C.cr_attributes_gos, T.tv, ↓reduceIte, Nat.reduceEqDiff, reduceCtorEq, Nat.reduceLeDiff, Nat.reducePow, Int.reducePow, Int.reduceToNat, Nat.reduceAdd, k08]
      refine eff_callF rfl ((take_any b.1 hl (by omega) r8).mono ?_)
      rintro _ h9 ⟨f9, r9, _⟩
      have y9 := hI2 y _ h9 y8 f9
      have hw : IntKind.i64.wrap (((j + 1 : Nat) : Int) - 1) = (j : Int) := by rw [wrap_i64 (by omega) (by omega)]; omega
      simp (disch := first | omega | assumption) only [C.cr_attributes_gos, T.tv, ↓reduceIte, Nat.reduceEqDiff, reduceCtorEq, Nat.reduceLeDiff, Nat.reducePow, Int.reducePow, Int.reduceToNat, Nat.reduceAdd, hw]
      exact ⟨_, by omega, j, y, _, rfl, by omega, rfl, y9, r9, hR⟩
    | some z =>
      obtain ⟨z, u⟩ := z
      simp only [hT, TkP] at hcall hR
      refine hcall.mono ?_
      rintro _ h8 ⟨rfl, y8, r8⟩
      have k08 := (hI1 z h8 y8).1.k0
      simp (disch := first | omega | assumption) only [C.cr_attributes_gos, T.tv, ↓reduceIte, Nat.reduceEqDiff, reduceCtorEq, Nat.reduceLeDiff, Nat.reducePow, Int.reducePow, Int.reduceToNat, Nat.reduceAdd, k08]
      refine eff_callF rfl ((at_any r8).mono ?_)
      rintro _ h9 ⟨rfl, rfl⟩
      have q1 := r8.2
      have q2 := r4.2
      have hw0 : IntKind.i64.wrap ((u.p : Int) - (b.2.p : Int)) = (u.p : Int) - (b.2.p : Int) := wrap_i64 (by omega) (by omega)
      have hw : IntKind.i64.wrap (((j + 1 : Nat) : Int) - 1) = (j : Int) := by rw [wrap_i64 (by omega) (by omega)]; omega
      by_cases hp : u.p = b.2.p + b.1
      · rw [if_pos hp] at hR
        have hp' : (u.p : Int) - (b.2.p : Int) = (b.1 : Int) := by omega
        simp (disch := first | omega | assumption) only [C.cr_attributes_gos, T.tv, ↓reduceIte, Nat.reduceEqDiff, reduceCtorEq, Nat.reduceLeDiff, Nat.reducePow, Int.reducePow, Int.reduceToNat, Nat.reduceAdd, hw0, eq_true hp', hw]
        exact ⟨_, by omega, j, z, _, rfl, by omega, rfl, y8, r8, hR⟩
      · rw [if_neg hp] at hR
        have hp' : ¬ (u.p : Int) - (b.2.p : Int) = (b.1 : Int) := by omega
        simp (disch := first | omega | assumption) only [C.cr_attributes_gos, T.tv, ↓reduceIte, Nat.reduceEqDiff, reduceCtorEq, Nat.reduceLeDiff, Nat.reducePow, Int.reducePow, Int.reduceToNat, Nat.reduceAdd, hw0, eq_false hp', k08]
        refine eff_callF rfl ((fail_any 12 t.p r8).mono ?_)
        rintro _ h10 ⟨f10, r10⟩
        have y10 := hI2 z _ h10 y8 f10
        simp (disch := first | omega | assumption) only [C.cr_attributes_gos, T.tv, ↓reduceIte, Nat.reduceEqDiff, reduceCtorEq, Nat.reduceLeDiff, Nat.reducePow, Int.reducePow, Int.reduceToNat, Nat.reduceAdd, hw]
        exact ⟨_, by omega, j, z, _, rfl, by omega, rfl, y10, r10, hR⟩
end
end Go.Proofs.Ytohkbpnblkkdgaa
namespace Go.Proofs.Ytohkbpnblkkdgaa
open Go.Vc
set_option maxRecDepth 100000
set_option linter.unusedSimpArgs false
set_option linter.unusedVariables false

/-- A class reader, and the pool in it. -/
structure CR (h : Heap) (g gr : Nat) (rc : List Value) (p : List Cst) (vp : Value) : Prop where
  rd : RdC h g gr rc
  pl : SlN h 5 vp p.length (flatS p)
  v5 : rc[5]? = some vp
  nb : ¬ vp.ownBlock = some gr
  ne : g ≠ gr
theorem CR.fr {S : Nat → Prop} {h h' : Heap} {g gr : Nat} {rc : List Value} {p : List Cst} {vp : Value} (D : CR h g gr rc p vp) (f : Fr S h h') (h1 : ¬ S g) (h2 : ∀ k, k < h.size → vp.ownBlock = some k → ¬ S k) : CR h' g gr rc p vp :=
  ⟨Fr_blk f D.rd h1, D.pl.fr (by decide) f h2, D.v5, D.nb, D.ne⟩
theorem CR.frR {h h' : Heap} {g gr : Nat} {rc : List Value} {p : List Cst} {vp : Value} (D : CR h g gr rc p vp) (f : FrR gr h h') : CR h' g gr rc p vp :=
  D.fr f D.ne (fun k _ hk hS => D.nb (by rw [hk, hS]))
/-- A reading function's own blocks. -/
structure FT (h : Heap) (g gr : Nat) (rc : List Value) (p : List Cst) (vp : Value) (rb fb2 : Nat) (t : TypeId) (zs : Array Value) (hx : Heap) : Prop where
  cr : CR hx g gr rc p vp
  br : hx[rb]? = some (.cells #[.pointer (some ⟨g, 0, none⟩)] 100 (0, 0))
  b2 : hx[fb2]? = some (.cells zs t (0, 0))
  fr : FrR gr h hx
  n1 : rb ≠ gr
  n2 : fb2 ≠ gr
theorem FT.frR {h hx hy : Heap} {g gr : Nat} {rc : List Value} {p : List Cst} {vp : Value} {rb fb2 : Nat} {t : TypeId} {zs : Array Value} (D : FT h g gr rc p vp rb fb2 t zs hx) (f : FrR gr hx hy) : FT h g gr rc p vp rb fb2 t zs hy :=
  ⟨D.cr.frR f, Fr_blk f D.br D.n1, Fr_blk f D.b2 D.n2, D.fr.trans' f, D.n1, D.n2⟩
theorem FT.kr {h hx : Heap} {g gr : Nat} {rc : List Value} {p : List Cst} {vp : Value} {rb fb2 : Nat} {t : TypeId} {zs : Array Value} (D : FT h g gr rc p vp rb fb2 t zs hx) : cellAt hx ⟨rb, 0, none⟩ = some (.pointer (some ⟨g, 0, none⟩)) := by rw [cellAt_of D.br]; rfl
theorem FrR.new {h h1 h2 : Heap} {gr b : Nat} (H : FrR gr h h1) (K : Fr (fun k => k = b) h1 h2) (hb : h.size ≤ b) : FrR gr h h2 := Fr.trans H K (fun _ _ h => h) (fun k hk hS => by omega)
section
variable {h h1 : Heap} {g gr rb fb sb fb2 : Nat} {rc : List Value} {p : List Cst} {vp : Value} {l : List UInt8} {s : RS}
/-- A field under way. -/
structure FI (h : Heap) (g gr : Nat) (rc : List Value) (p : List Cst) (vp : Value) (rb fb sb fb2 f1 f2 f3 : Nat) (x : Bool × Nat) (h1 : Heap) : Prop where
  cr : CR h1 g gr rc p vp
  br : h1[rb]? = some (.cells #[.pointer (some ⟨g, 0, none⟩)] 100 (0, 0))
  bf : h1[fb]? = some (.cells (Fld.cells ⟨f1, f2, f3, x.2⟩).toArray 89 (0, 0))
  bs : h1[sb]? = some (.cells #[.bool x.1] 4 (0, 0))
  fr : FrR gr h h1
  o0 : g < rb ∧ gr < rb
  o1 : h.size ≤ rb
  o2 : rb < fb
  o3 : fb < sb
  o4 : rb < fb2 ∧ fb2 < fb
  b2 : h1[fb2]? = some (.cells #[.int .u16 0, .int .u16 0, .int .u16 0, .int .u16 0] 89 (0, 0))
theorem FI.frR {f1 f2 f3 : Nat} {x : Bool × Nat} {h2 : Heap} (D : FI h g gr rc p vp rb fb sb fb2 f1 f2 f3 x h1) (f : FrR gr h1 h2) : FI h g gr rc p vp rb fb sb fb2 f1 f2 f3 x h2 := by
  have o0 := D.o0
  have o1 := D.o1
  have o2 := D.o2
  have o3 := D.o3
  have o4 := D.o4
  exact ⟨D.cr.frR f, Fr_blk f D.br (by omega), Fr_blk f D.bf (by omega), Fr_blk f D.bs (by omega), D.fr.trans' f, D.o0, D.o1, D.o2, D.o3, D.o4, Fr_blk f D.b2 (by omega)⟩
theorem CR.old {b : Nat} {h2 : Heap} (D : CR h1 g gr rc p vp) (D0 : CR h g gr rc p vp) (f : Fr (fun k => k = b) h1 h2) (x : FrR gr h h1) (hg : g < h.size) (hb : h.size ≤ b) : CR h2 g gr rc p vp :=
  ⟨Fr_blk f D.rd (by omega), D0.pl.fr (by decide) (x.new f hb) (fun k _ hk hS => D0.nb (by rw [hk, hS])), D.v5, D.nb, D.ne⟩
set_option maxHeartbeats 4000000 in
theorem field1_any {f1 f2 f3 : Nat} (hl : l.length ≤ 1073741824) (hg : g < h.size) (D0 : CR h g gr rc p vp) (name : List UInt8) (q n : Nat) (x : Bool × Nat) (D : FI h g gr rc p vp rb fb sb fb2 f1 f2 f3 x h1) (H : Rdr h1 gr l s) :
    HCalls Try.prog 79 #[str name, .int .i64 q, .int .i64 n, .pointer (some ⟨rb, 0, none⟩), .pointer (some ⟨sb, 0, none⟩), .pointer (some ⟨fb, 0, none⟩)] h1 (TkP gr l (FI h g gr rc p vp rb fb sb fb2 f1 f2 f3) x s (fldT l name q n x s)) := by
  refine C.cr_field_1_calls (args := [str name, .int .i64 q, .int .i64 n, .pointer (some ⟨rb, 0, none⟩), .pointer (some ⟨sb, 0, none⟩), .pointer (some ⟨fb, 0, none⟩)]) rfl ?_
  have o0 := D.o0
  have o1 := D.o1
  have o2 := D.o2
  have o3 := D.o3
  have o4 := D.o4
  by_cases hn : name = cvN
  case neg =>
    have hn' : ¬ name = [67, 111, 110, 115, 116, 97, 110, 116, 86, 97, 108, 117, 101] := hn
    have hT : fldT l name q n x s = none := by unfold fldT; rw [if_neg hn]
    rw [hT]
    simp (disch := first | omega | assumption) only [C.cr_field_1_gos, T.tv, ↓reduceIte, Nat.reduceEqDiff, reduceCtorEq, Nat.reduceLeDiff, Nat.reducePow, Int.reducePow, Int.reduceToNat, Nat.reduceAdd, eq_false hn']
    exact ⟨rfl, D, H⟩
  have hn' : name = [67, 111, 110, 115, 116, 97, 110, 116, 86, 97, 108, 117, 101] := hn
  have hT : fldT l name q n x s = some ((true, (numS l 2 (onceR x.1 q s)).1), (numS l 2 (onceR x.1 q s)).2) := by unfold fldT; rw [if_pos hn]
  rw [hT]
  have kr : cellAt h1 ⟨rb, 0, none⟩ = some (.pointer (some ⟨g, 0, none⟩)) := by rw [cellAt_of D.br]; rfl
  have ks : cellAt h1 ⟨sb, 0, none⟩ = some (.bool x.1) := by rw [cellAt_of D.bs]; rfl
  have kz : frozenAt h1 ⟨sb, 0, none⟩ = false := by simp [frozenAt, D.bs]
  simp (disch := first | omega | assumption) only [C.cr_field_1_gos, T.tv, ↓reduceIte, Nat.reduceEqDiff, reduceCtorEq, Nat.reduceLeDiff, Nat.reducePow, Int.reducePow, Int.reduceToNat, Nat.reduceAdd, eq_true hn', kr]
  refine eff_callF rfl ((once_any x.1 sb 0 q D.cr.rd ks kz (by omega) H).mono ?_)
  rintro _ _ ⟨h2, f2, r2, rfl, c2⟩
  have D2 := D.frR f2
  clear kr ks kz D H
  have f3 : Fr (fun k => k = sb) h2 (setAt h2 ⟨sb, 0, none⟩ (.bool true)) := Fr.set (S := fun k => k = sb) _ _ _ fun _ => rfl
  have b3 := setAt_get (o := 0) D2.bs (.bool true)
  have D3 : FI h g gr rc p vp rb fb sb fb2 f1 _ _ (true, x.2) (setAt h2 ⟨sb, 0, none⟩ (.bool true)) :=
    ⟨D2.cr.old D0 f3 D2.fr hg (by omega), Fr_blk f3 D2.br (by omega), Fr_blk f3 D2.bf (by omega), by rw [b3]; simp, D2.fr.new f3 (by omega), D2.o0, D2.o1, D2.o2, D2.o3, D2.o4, Fr_blk f3 D2.b2 (by omega)⟩
  have r3 : Rdr (setAt h2 ⟨sb, 0, none⟩ (.bool true)) gr l _ := r2.fr f3 (by omega)
  generalize setAt h2 ⟨sb, 0, none⟩ (.bool true) = h3 at *
  clear b3 f3 c2 r2 D2 f2
  have kr : cellAt h3 ⟨rb, 0, none⟩ = some (.pointer (some ⟨g, 0, none⟩)) := by rw [cellAt_of D3.br]; rfl
  have k0 := D3.cr.rd.k0
  simp (disch := first | omega | assumption) only [C.cr_field_1_gos, T.tv, ↓reduceIte, Nat.reduceEqDiff, reduceCtorEq, Nat.reduceLeDiff, Nat.reducePow, Int.reducePow, Int.reduceToNat, Nat.reduceAdd, kr, k0]
  refine eff_callF rfl ((index_any hl r3).mono ?_)
  rintro _ h4 ⟨f4, r4, rfl⟩
  have D4 := D3.frR f4
  have k3 : cellAt h4 ⟨fb, 3, none⟩ = some (.int .u16 (x.2 : Int)) := by rw [cellAt_of D4.bf]; rfl
  have kz : frozenAt h4 ⟨fb, 3, none⟩ = false := by simp [frozenAt, D4.bf]
  simp (disch := first | omega | assumption) only [C.cr_field_1_gos, T.tv, ↓reduceIte, Nat.reduceEqDiff, reduceCtorEq, Nat.reduceLeDiff, Nat.reducePow, Int.reducePow, Int.reduceToNat, Nat.reduceAdd]
  refine eff_store1_z T.zr_38 rfl rfl rfl rfl rfl k3 kz ?_
  generalize numS l 2 (onceR x.1 q s) = v at *
  have f5 : Fr (fun k => k = fb) h4 (setAt h4 ⟨fb, 3, none⟩ (.int .u16 (v.1 : Int))) := Fr.set (S := fun k => k = fb) _ _ _ fun _ => rfl
  have b5 := setAt_get (o := 3) D4.bf (.int .u16 (v.1 : Int))
  simp (disch := first | omega | assumption) only [C.cr_field_1_gos, T.tv, ↓reduceIte, Nat.reduceEqDiff, reduceCtorEq, Nat.reduceLeDiff, Nat.reducePow, Int.reducePow, Int.reduceToNat, Nat.reduceAdd]
  exact ⟨rfl, ⟨D4.cr.old D0 f5 D4.fr hg (by omega), Fr_blk f5 D4.br (by omega), by rw [b5]; simp [Fld.cells], Fr_blk f5 D4.bs (by omega), D4.fr.new f5 (by omega), D4.o0, D4.o1, D4.o2, D4.o3, D4.o4, Fr_blk f5 D4.b2 (by omega)⟩, r4.fr f5 (by omega)⟩
set_option maxHeartbeats 4000000 in
theorem field_any (hl : l.length ≤ 1073741824) (D0 : CR h g gr rc p vp) (H : Rdr h gr l s) :
    HCalls Try.prog 54 #[.pointer (some ⟨g, 0, none⟩)] h fun r h' => FrR gr h h' ∧ Rdr h' gr l (fieldR p l s).2 ∧ r = .agg (fieldR p l s).1.cells.toArray := by
  refine C.cr_field_calls (args := [.pointer (some ⟨g, 0, none⟩)]) rfl ?_
  have hgr := H.lt
  have hg : g < h.size := (Array.getElem?_eq_some_iff.1 D0.rd).1
  simp (disch := first | omega | assumption) only [C.cr_field_gos, T.tv, ↓reduceIte, Nat.reduceEqDiff, reduceCtorEq, Nat.reduceLeDiff, Nat.reducePow, Int.reducePow, Int.reduceToNat, Nat.reduceAdd]
  refine eff_box ?_
  have e1 : Ext h (h.push (.cells #[.pointer (some ⟨g, 0, none⟩)] 100)) := Ext.push _ _
  have b1 : (h.push (.cells #[.pointer (some ⟨g, 0, none⟩)] 100))[h.size]? = some (.cells #[.pointer (some ⟨g, 0, none⟩)] 100 (0, 0)) := by simp
  have s1 : (h.push (.cells #[.pointer (some ⟨g, 0, none⟩)] 100)).size = h.size + 1 := by simp
  simp (disch := first | omega | assumption) only [C.cr_field_gos, T.tv, ↓reduceIte, Nat.reduceEqDiff, reduceCtorEq, Nat.reduceLeDiff, Nat.reducePow, Int.reducePow, Int.reduceToNat, Nat.reduceAdd]
  generalize h.push (.cells #[.pointer (some ⟨g, 0, none⟩)] 100) = h1 at *
  obtain ⟨rb, hrb⟩ : ∃ x, x = h.size := ⟨_, rfl⟩
  rw [← hrb] at b1 ⊢
  refine eff_alloc_z T.zr_89 ?_
  have e2 : Ext h1 (h1.push (.cells #[.int .u16 0, .int .u16 0, .int .u16 0, .int .u16 0] 89)) := Ext.push _ _
  have b2 : (h1.push (.cells #[.int .u16 0, .int .u16 0, .int .u16 0, .int .u16 0] 89))[h1.size]? = some (.cells #[.int .u16 0, .int .u16 0, .int .u16 0, .int .u16 0] 89 (0, 0)) := by simp
  have b12 := Fr_blk e2 b1 id
  have s2 : (h1.push (.cells #[.int .u16 0, .int .u16 0, .int .u16 0, .int .u16 0] 89)).size = h1.size + 1 := by simp
  obtain ⟨fb2, hfb2⟩ : ∃ x, x = h1.size := ⟨_, rfl⟩
  rw [← hfb2] at b2
  have X : FrR gr h (h1.push (.cells #[.int .u16 0, .int .u16 0, .int .u16 0, .int .u16 0] 89)) := FrR.ext (e1.trans e2)
  have hjoin : ∀ (h3 : Heap) (fb f1 f2 f3 : Nat) (t : RS), CR h3 g gr rc p vp → h3[rb]? = some (.cells #[.pointer (some ⟨g, 0, none⟩)] 100 (0, 0)) → h3[fb2]? = some (.cells #[.int .u16 0, .int .u16 0, .int .u16 0, .int .u16 0] 89 (0, 0)) →
      h3[fb]? = some (.cells (Fld.cells ⟨f1, f2, f3, 0⟩).toArray 89 (0, 0)) → FrR gr h h3 → fb2 < fb → Rdr h3 gr l t → fieldR p l s = ((⟨f1, f2, f3, (attrsR p l (fldT l) (numS l 2 t).1 (false, 0) (numS l 2 t).2).1.2⟩ : Fld), (attrsR p l (fldT l) (numS l 2 t).1 (false, 0) (numS l 2 t).2).2) →
      Cd.vc Try.prog C.cr_field_t0 (retQ Try.prog [(2, some 89)] fun r h' => FrR gr h h' ∧ Rdr h' gr l (fieldR p l s).2 ∧ r = .agg (fieldR p l s).1.cells.toArray) [(0, .pointer (some ⟨g, 0, none⟩)), (1, .pointer (some ⟨rb, 0, none⟩)), (2, .pointer (some ⟨fb2, 0, none⟩)), (3, .pointer (some ⟨fb, 0, none⟩)), (4, undef)] h3 := by
    intro h3 fb f1 f2 f3 t D3 br3 b23 bf3 x3 hlt r3 hR
    rw [C.cr_field_t0_go, hR]
    have hfb := (Array.getElem?_eq_some_iff.1 bf3).1
    simp (disch := first | omega | assumption) only [C.cr_field_gos, T.tv, ↓reduceIte, Nat.reduceEqDiff, reduceCtorEq, Nat.reduceLeDiff, Nat.reducePow, Int.reducePow, Int.reduceToNat, Nat.reduceAdd]
    refine eff_alloc_z T.zr_4 ?_
    simp (disch := first | omega | assumption) only [C.cr_field_gos, T.tv, ↓reduceIte, Nat.reduceEqDiff, reduceCtorEq, Nat.reduceLeDiff, Nat.reducePow, Int.reducePow, Int.reduceToNat, Nat.reduceAdd]
    refine eff_store_new_z T.zr_4 rfl rfl rfl (by simp [Value.cells, oneCell]) rfl ?_
    intro h4 x4 hlt4 hrd4 b4
    change h4[h3.size]? = some (.cells #[.bool false] 4 (0, 0)) at b4
    have I0 : FI h g gr rc p vp rb fb h3.size fb2 f1 f2 f3 (false, 0) h4 := ⟨D3.frR (FrR.ext x4), Fr_blk x4 br3 id, Fr_blk x4 bf3 id, b4, x3.trans' (FrR.ext x4), ⟨by omega, by omega⟩, by omega, by omega, hfb, ⟨by omega, hlt⟩, Fr_blk x4 b23 id⟩
    have r4 := r3.fr x4 id
    have kr : cellAt h4 ⟨rb, 0, none⟩ = some (.pointer (some ⟨g, 0, none⟩)) := by rw [cellAt_of I0.br]; rfl
    simp (disch := first | omega | assumption) only [C.cr_field_gos, T.tv, ↓reduceIte, Nat.reduceEqDiff, reduceCtorEq, Nat.reduceLeDiff, Nat.reducePow, Int.reducePow, Int.reduceToNat, Nat.reduceAdd, kr]
    refine eff_call_of ?_
    simp (disch := first | omega | assumption) only [C.cr_field_gos, T.tv, ↓reduceIte, Nat.reduceEqDiff, reduceCtorEq, Nat.reduceLeDiff, Nat.reducePow, Int.reducePow, Int.reduceToNat, Nat.reduceAdd]
    refine (attributes_any p vp (fldT l) 79 #[.pointer (some ⟨rb, 0, none⟩), .pointer (some ⟨h3.size, 0, none⟩), .pointer (some ⟨fb, 0, none⟩)]
      (fun x hh => FI h g gr rc p vp rb fb h3.size fb2 f1 f2 f3 x hh) hl (by decide +kernel) D0.v5 (fun x hh hx => ⟨hx.cr.rd, hx.cr.pl⟩) (fun x hh hh' hx f => hx.frR f) ?_ (false, 0) I0 r4).mono ?_
    · intro hh name q n x s1 hx hr he hq hn
      exact field1_any hl hg D0 name q n x hx hr
    rintro _ h5 ⟨I5, r5⟩
    generalize attrsR p l (fldT l) (numS l 2 t).1 (false, 0) (numS l 2 t).2 = R at *
    have hld := ld_agg T.ag_89 (Rd_block (vs := Fld.cells ⟨f1, f2, f3, R.1.2⟩) I5.bf) rfl
    simp only [Fld.cells] at hld
    simp (disch := first | omega | assumption) only [C.cr_field_gos, T.tv, ↓reduceIte, Nat.reduceEqDiff, reduceCtorEq, Nat.reduceLeDiff, Nat.reducePow, Int.reducePow, Int.reduceToNat, Nat.reduceAdd, hld]
    refine eff_storeN_zz T.zr_89 rfl rfl rfl (by simp [Value.cells, oneCell]) I5.b2 (by decide) (fun j _ _ => by simp) ?_
    intro h6 f6 b6
    have hrd : Rd h6 fb2 0 (Fld.cells ⟨f1, f2, f3, R.1.2⟩) := Rd_block (by simpa [Value.cells, Fld.cells] using b6)
    have hld6 := ld_agg T.ag_89 hrd rfl
    simp only [Fld.cells] at hld6
    have o4 := I5.o4
    simp (disch := first | omega | assumption) only [C.cr_field_gos, T.tv, ↓reduceIte, Nat.reduceEqDiff, reduceCtorEq, Nat.reduceLeDiff, Nat.reducePow, Int.reducePow, Int.reduceToNat, Nat.reduceAdd, hld6]
    exact ⟨I5.fr.new f6 (by omega), r5.fr f6 (by omega), rfl⟩
  have r2 := H.fr (e1.trans e2) id
  have c2 := D0.frR X
  generalize h1.push (.cells #[.int .u16 0, .int .u16 0, .int .u16 0, .int .u16 0] 89) = h2 at *
  rw [← hfb2]
  clear b1 e1 e2
  have hlt2 : fb2 < h2.size := by omega
  have kr : cellAt h2 ⟨rb, 0, none⟩ = some (.pointer (some ⟨g, 0, none⟩)) := by rw [cellAt_of b12]; rfl
  have k0 := c2.rd.k0
  simp (disch := first | omega | assumption) only [C.cr_field_gos, T.tv, ↓reduceIte, Nat.reduceEqDiff, reduceCtorEq, Nat.reduceLeDiff, Nat.reducePow, Int.reducePow, Int.reduceToNat, Nat.reduceAdd, kr, k0]
  have D2 : FT h g gr rc p vp rb fb2 89 #[.int .u16 0, .int .u16 0, .int .u16 0, .int .u16 0] h2 := ⟨c2, b12, b2, X, by omega, by omega⟩
  clear b12 b2 X c2 s2
  refine ⟨?_, ?_⟩
  · refine eff_callF rfl ((index_any hl r2).mono ?_)
    rintro _ y1 ⟨f1, r1, rfl⟩
    have D1 := D2.frR f1
    clear kr k0
    have kr := D1.kr
    have k0 := D1.cr.rd.k0
    simp (disch := first | omega | assumption) only [C.cr_field_gos, T.tv, ↓reduceIte, Nat.reduceEqDiff, reduceCtorEq, Nat.reduceLeDiff, Nat.reducePow, Int.reducePow, Int.reduceToNat, Nat.reduceAdd, kr, k0]
    refine ⟨?_, ?_⟩
    · refine eff_callF rfl ((index_any hl r1).mono ?_)
      rintro _ y2 ⟨f2, r2, rfl⟩
      have D2 := D1.frR f2
      clear kr k0
      have kr := D2.kr
      have k0 := D2.cr.rd.k0
      simp (disch := first | omega | assumption) only [C.cr_field_gos, T.tv, ↓reduceIte, Nat.reduceEqDiff, reduceCtorEq, Nat.reduceLeDiff, Nat.reducePow, Int.reducePow, Int.reduceToNat, Nat.reduceAdd, kr, k0]
      refine ⟨?_, ?_⟩
      · refine eff_callF rfl ((index_any hl r2).mono ?_)
        rintro _ y3 ⟨f3, r3, rfl⟩
        have D3 := D2.frR f3
        clear kr k0
        have kr := D3.kr
        have k0 := D3.cr.rd.k0
        simp (disch := first | omega | assumption) only [C.cr_field_gos, T.tv, ↓reduceIte, Nat.reduceEqDiff, reduceCtorEq, Nat.reduceLeDiff, Nat.reducePow, Int.reducePow, Int.reduceToNat, Nat.reduceAdd, kr, k0]
        refine eff_alloc_z T.zr_89 ?_
        have ex : Ext y3 (y3.push (.cells #[.int .u16 0, .int .u16 0, .int .u16 0, .int .u16 0] 89)) := Ext.push _ _
        have ba : (y3.push (.cells #[.int .u16 0, .int .u16 0, .int .u16 0, .int .u16 0] 89))[y3.size]? = some (.cells #[.int .u16 0, .int .u16 0, .int .u16 0, .int .u16 0] 89 (0, 0)) := by simp
        have Dx := D3.frR (FrR.ext ex)
        have rx := r3.fr ex id
        have hfl : fb2 < y3.size := (Array.getElem?_eq_some_iff.1 D3.b2).1
        have hfh : h.size ≤ y3.size := D3.fr.size
        generalize y3.push (.cells #[.int .u16 0, .int .u16 0, .int .u16 0, .int .u16 0] 89) = ha at *
        generalize y3.size = fb at *
        have hfg : fb ≠ gr := by omega
        clear kr k0
        have kr := Dx.kr
        have k0 := Dx.cr.rd.k0
        simp (disch := first | omega | assumption) only [C.cr_field_gos, T.tv, ↓reduceIte, Nat.reduceEqDiff, reduceCtorEq, Nat.reduceLeDiff, Nat.reducePow, Int.reducePow, Int.reduceToNat, Nat.reduceAdd, kr, k0]
        refine eff_storeN_zz T.zr_89 rfl rfl rfl (by simp [Value.cells, oneCell, str]) ba (by decide) (fun j _ _ => by simp) ?_
        intro yz fz bz
        have o0 := Dx.fr.size
        have dz : CR yz g gr rc p vp := Dx.cr.old D0 fz Dx.fr hg (by omega)
        simp (disch := first | omega | assumption) only [C.cr_field_gos, T.tv, ↓reduceIte, Nat.reduceEqDiff, reduceCtorEq, Nat.reduceLeDiff, Nat.reducePow, Int.reducePow, Int.reduceToNat, Nat.reduceAdd]
        exact hjoin yz fb _ _ _ _ dz (Fr_blk fz Dx.br (by omega)) (Fr_blk fz Dx.b2 (by omega)) (by simpa [Value.cells, Fld.cells] using bz) (Dx.fr.new fz (by omega)) (by omega) (rx.fr fz (by omega)) rfl
      · refine eff_alloc_z T.zr_89 ?_
        have ex : Ext y2 (y2.push (.cells #[.int .u16 0, .int .u16 0, .int .u16 0, .int .u16 0] 89)) := Ext.push _ _
        have ba : (y2.push (.cells #[.int .u16 0, .int .u16 0, .int .u16 0, .int .u16 0] 89))[y2.size]? = some (.cells #[.int .u16 0, .int .u16 0, .int .u16 0, .int .u16 0] 89 (0, 0)) := by simp
        have Dx := D2.frR (FrR.ext ex)
        have rx := r2.fr ex id
        have hfl : fb2 < y2.size := (Array.getElem?_eq_some_iff.1 D2.b2).1
        have hfh : h.size ≤ y2.size := D2.fr.size
        generalize y2.push (.cells #[.int .u16 0, .int .u16 0, .int .u16 0, .int .u16 0] 89) = ha at *
        generalize y2.size = fb at *
        have hfg : fb ≠ gr := by omega
        clear kr k0
        have kr := Dx.kr
        have k0 := Dx.cr.rd.k0
        simp (disch := first | omega | assumption) only [C.cr_field_gos, T.tv, ↓reduceIte, Nat.reduceEqDiff, reduceCtorEq, Nat.reduceLeDiff, Nat.reducePow, Int.reducePow, Int.reduceToNat, Nat.reduceAdd, kr, k0]
        refine eff_callF rfl ((index_any hl rx).mono ?_)
        rintro _ y4 ⟨f4, r4, rfl⟩
        have D4 := Dx.frR f4
        have b4' := Fr_blk f4 ba hfg
        clear kr k0
        have kr := D4.kr
        have k0 := D4.cr.rd.k0
        simp (disch := first | omega | assumption) only [C.cr_field_gos, T.tv, ↓reduceIte, Nat.reduceEqDiff, reduceCtorEq, Nat.reduceLeDiff, Nat.reducePow, Int.reducePow, Int.reduceToNat, Nat.reduceAdd, kr, k0]
        refine eff_storeN_zz T.zr_89 rfl rfl rfl (by simp [Value.cells, oneCell, str]) b4' (by decide) (fun j _ _ => by simp) ?_
        intro yz fz bz
        have o0 := D4.fr.size
        have dz : CR yz g gr rc p vp := D4.cr.old D0 fz D4.fr hg (by omega)
        simp (disch := first | omega | assumption) only [C.cr_field_gos, T.tv, ↓reduceIte, Nat.reduceEqDiff, reduceCtorEq, Nat.reduceLeDiff, Nat.reducePow, Int.reducePow, Int.reduceToNat, Nat.reduceAdd]
        exact hjoin yz fb _ _ _ _ dz (Fr_blk fz D4.br (by omega)) (Fr_blk fz D4.b2 (by omega)) (by simpa [Value.cells, Fld.cells] using bz) (D4.fr.new fz (by omega)) (by omega) (r4.fr fz (by omega)) rfl
    · refine eff_alloc_z T.zr_89 ?_
      have ex : Ext y1 (y1.push (.cells #[.int .u16 0, .int .u16 0, .int .u16 0, .int .u16 0] 89)) := Ext.push _ _
      have ba : (y1.push (.cells #[.int .u16 0, .int .u16 0, .int .u16 0, .int .u16 0] 89))[y1.size]? = some (.cells #[.int .u16 0, .int .u16 0, .int .u16 0, .int .u16 0] 89 (0, 0)) := by simp
      have Dx := D1.frR (FrR.ext ex)
      have rx := r1.fr ex id
      have hfl : fb2 < y1.size := (Array.getElem?_eq_some_iff.1 D1.b2).1
      have hfh : h.size ≤ y1.size := D1.fr.size
      generalize y1.push (.cells #[.int .u16 0, .int .u16 0, .int .u16 0, .int .u16 0] 89) = ha at *
      generalize y1.size = fb at *
      have hfg : fb ≠ gr := by omega
      clear kr k0
      have kr := Dx.kr
      have k0 := Dx.cr.rd.k0
      simp (disch := first | omega | assumption) only [C.cr_field_gos, T.tv, ↓reduceIte, Nat.reduceEqDiff, reduceCtorEq, Nat.reduceLeDiff, Nat.reducePow, Int.reducePow, Int.reduceToNat, Nat.reduceAdd, kr, k0]
      refine eff_callF rfl ((index_any hl rx).mono ?_)
      rintro _ y5 ⟨f5, r5, rfl⟩
      have D5 := Dx.frR f5
      have b5' := Fr_blk f5 ba hfg
      clear kr k0
      have kr := D5.kr
      have k0 := D5.cr.rd.k0
      simp (disch := first | omega | assumption) only [C.cr_field_gos, T.tv, ↓reduceIte, Nat.reduceEqDiff, reduceCtorEq, Nat.reduceLeDiff, Nat.reducePow, Int.reducePow, Int.reduceToNat, Nat.reduceAdd, kr, k0]
      refine eff_callF rfl ((index_any hl r5).mono ?_)
      rintro _ y6 ⟨f6, r6, rfl⟩
      have D6 := D5.frR f6
      have b6' := Fr_blk f6 b5' hfg
      clear kr k0
      have kr := D6.kr
      have k0 := D6.cr.rd.k0
      simp (disch := first | omega | assumption) only [C.cr_field_gos, T.tv, ↓reduceIte, Nat.reduceEqDiff, reduceCtorEq, Nat.reduceLeDiff, Nat.reducePow, Int.reducePow, Int.reduceToNat, Nat.reduceAdd, kr, k0]
      refine eff_storeN_zz T.zr_89 rfl rfl rfl (by simp [Value.cells, oneCell, str]) b6' (by decide) (fun j _ _ => by simp) ?_
      intro yz fz bz
      have o0 := D6.fr.size
      have dz : CR yz g gr rc p vp := D6.cr.old D0 fz D6.fr hg (by omega)
      simp (disch := first | omega | assumption) only [C.cr_field_gos, T.tv, ↓reduceIte, Nat.reduceEqDiff, reduceCtorEq, Nat.reduceLeDiff, Nat.reducePow, Int.reducePow, Int.reduceToNat, Nat.reduceAdd]
      exact hjoin yz fb _ _ _ _ dz (Fr_blk fz D6.br (by omega)) (Fr_blk fz D6.b2 (by omega)) (by simpa [Value.cells, Fld.cells] using bz) (D6.fr.new fz (by omega)) (by omega) (r6.fr fz (by omega)) rfl
  · refine eff_alloc_z T.zr_89 ?_
    have ex : Ext h2 (h2.push (.cells #[.int .u16 0, .int .u16 0, .int .u16 0, .int .u16 0] 89)) := Ext.push _ _
    have ba : (h2.push (.cells #[.int .u16 0, .int .u16 0, .int .u16 0, .int .u16 0] 89))[h2.size]? = some (.cells #[.int .u16 0, .int .u16 0, .int .u16 0, .int .u16 0] 89 (0, 0)) := by simp
    have Dx := D2.frR (FrR.ext ex)
    have rx := r2.fr ex id
    have hfl : fb2 < h2.size := (Array.getElem?_eq_some_iff.1 D2.b2).1
    have hfh : h.size ≤ h2.size := D2.fr.size
    generalize h2.push (.cells #[.int .u16 0, .int .u16 0, .int .u16 0, .int .u16 0] 89) = ha at *
    generalize h2.size = fb at *
    have hfg : fb ≠ gr := by omega
    clear kr k0
    have kr := Dx.kr
    have k0 := Dx.cr.rd.k0
    simp (disch := first | omega | assumption) only [C.cr_field_gos, T.tv, ↓reduceIte, Nat.reduceEqDiff, reduceCtorEq, Nat.reduceLeDiff, Nat.reducePow, Int.reducePow, Int.reduceToNat, Nat.reduceAdd, kr, k0]
    refine eff_callF rfl ((index_any hl rx).mono ?_)
    rintro _ y7 ⟨f7, r7, rfl⟩
    have D7 := Dx.frR f7
    have b7' := Fr_blk f7 ba hfg
    clear kr k0
    have kr := D7.kr
    have k0 := D7.cr.rd.k0
    simp (disch := first | omega | assumption) only [C.cr_field_gos, T.tv, ↓reduceIte, Nat.reduceEqDiff, reduceCtorEq, Nat.reduceLeDiff, Nat.reducePow, Int.reducePow, Int.reduceToNat, Nat.reduceAdd, kr, k0]
    refine eff_callF rfl ((index_any hl r7).mono ?_)
    rintro _ y8 ⟨f8, r8, rfl⟩
    have D8 := D7.frR f8
    have b8' := Fr_blk f8 b7' hfg
    clear kr k0
    have kr := D8.kr
    have k0 := D8.cr.rd.k0
    simp (disch := first | omega | assumption) only [C.cr_field_gos, T.tv, ↓reduceIte, Nat.reduceEqDiff, reduceCtorEq, Nat.reduceLeDiff, Nat.reducePow, Int.reducePow, Int.reduceToNat, Nat.reduceAdd, kr, k0]
    refine eff_callF rfl ((index_any hl r8).mono ?_)
    rintro _ y9 ⟨f9, r9, rfl⟩
    have D9 := D8.frR f9
    have b9' := Fr_blk f9 b8' hfg
    clear kr k0
    have kr := D9.kr
    have k0 := D9.cr.rd.k0
    simp (disch := first | omega | assumption) only [C.cr_field_gos, T.tv, ↓reduceIte, Nat.reduceEqDiff, reduceCtorEq, Nat.reduceLeDiff, Nat.reducePow, Int.reducePow, Int.reduceToNat, Nat.reduceAdd, kr, k0]
    refine eff_storeN_zz T.zr_89 rfl rfl rfl (by simp [Value.cells, oneCell, str]) b9' (by decide) (fun j _ _ => by simp) ?_
    intro yz fz bz
    have o0 := D9.fr.size
    have dz : CR yz g gr rc p vp := D9.cr.old D0 fz D9.fr hg (by omega)
    simp (disch := first | omega | assumption) only [C.cr_field_gos, T.tv, ↓reduceIte, Nat.reduceEqDiff, reduceCtorEq, Nat.reduceLeDiff, Nat.reducePow, Int.reducePow, Int.reduceToNat, Nat.reduceAdd]
    exact hjoin yz fb _ _ _ _ dz (Fr_blk fz D9.br (by omega)) (Fr_blk fz D9.b2 (by omega)) (by simpa [Value.cells, Fld.cells] using bz) (D9.fr.new fz (by omega)) (by omega) (r9.fr fz (by omega)) rfl
end
end Go.Proofs.Ytohkbpnblkkdgaa
namespace Go.Proofs.Ytohkbpnblkkdgaa
open Go.Vc
set_option maxRecDepth 100000
set_option linter.unusedSimpArgs false
set_option linter.unusedVariables false

/-- Code under way. -/
structure CC (h : Heap) (g gr : Nat) (rc : List Value) (p : List Cst) (vp : Value) (rb fb2 fb : Nat) (c : Cde) (vH : Value) (hx : Heap) : Prop where
  t : FT h g gr rc p vp rb fb2 79 #[.int .i64 0, .int .i64 0, str [], .slice none 0 0, str []] hx
  bf : hx[fb]? = some (.cells (CdeV c vH).toArray 79 (0, 0))
  own : Own hx h.size 132 4 vH c.hs.length (flatH c.hs)
  o1 : h.size ≤ rb
  o2 : rb < fb2 ∧ fb2 < fb
  o3 : g < h.size ∧ gr < h.size
section
variable {h hx hy : Heap} {g gr rb fb fb2 sb : Nat} {rc : List Value} {p : List Cst} {vp : Value} {l : List UInt8} {s : RS} {c : Cde} {vH : Value}
theorem CC.frR (D : CC h g gr rc p vp rb fb2 fb c vH hx) (f : FrR gr hx hy) : CC h g gr rc p vp rb fb2 fb c vH hy := by
  have o1 := D.o1
  have o2 := D.o2
  have o3 := D.o3
  exact ⟨D.t.frR f, Fr_blk f D.bf (by omega), D.own.fr f (fun k hk hS => by have := (D.own.lt k hk).1; omega), D.o1, D.o2, D.o3⟩
theorem CC.out (D : CC h g gr rc p vp rb fb2 fb c vH hx) (D0 : CR h g gr rc p vp) {b : Nat} (f : Fr (fun k => k = b) hx hy) (hb : h.size ≤ b) (h1 : b ≠ rb) (h2 : b ≠ fb2) (h3 : b ≠ fb) (hw : ¬ vH.ownBlock = some b) : CC h g gr rc p vp rb fb2 fb c vH hy := by
  have o1 := D.o1
  have o2 := D.o2
  have o3 := D.o3
  exact ⟨⟨D.t.cr.old D0 f D.t.fr o3.1 hb, Fr_blk f D.t.br (Ne.symm h1), Fr_blk f D.t.b2 (Ne.symm h2), D.t.fr.new f hb, D.t.n1, D.t.n2⟩, Fr_blk f D.bf (Ne.symm h3), D.own.fr f (fun k hk hS => hw (by rw [hk, hS])), D.o1, D.o2, D.o3⟩
theorem CC.set (D : CC h g gr rc p vp rb fb2 fb c vH hx) (D0 : CR h g gr rc p vp) {c' : Cde} {w : Value} (f : Fr (fun k => k = fb) hx hy) (hb : hy[fb]? = some (.cells (CdeV c' w).toArray 79 (0, 0))) (ho : Own hx h.size 132 4 w c'.hs.length (flatH c'.hs)) : CC h g gr rc p vp rb fb2 fb c' w hy := by
  have o1 := D.o1
  have o2 := D.o2
  have o3 := D.o3
  exact ⟨⟨D.t.cr.old D0 f D.t.fr o3.1 (by omega), Fr_blk f D.t.br (by omega), Fr_blk f D.t.b2 (by omega), D.t.fr.new f (by omega), D.t.n1, D.t.n2⟩, hb, ho.fr f (fun k hk hS => by
    subst hS
    exact Own_ne ho D.bf (by decide) hk), D.o1, D.o2, D.o3⟩
/-- Code of which the attributes are looked at. -/
structure CI (h : Heap) (g gr : Nat) (rc : List Value) (p : List Cst) (vp : Value) (rb fb2 fb sb : Nat) (c : Cde) (vH : Value) (x : Bool × List UInt8) (hx : Heap) : Prop where
  c : CC h g gr rc p vp rb fb2 fb ⟨c.maxS, c.maxL, c.bytes, c.hs, x.2⟩ vH hx
  bs : hx[sb]? = some (.cells #[.bool x.1] 4 (0, 0))
  o : fb < sb
theorem CI.frR {x : Bool × List UInt8} (D : CI h g gr rc p vp rb fb2 fb sb c vH x hx) (f : FrR gr hx hy) : CI h g gr rc p vp rb fb2 fb sb c vH x hy := by
  have o1 := D.c.o1
  have o2 := D.c.o2
  have o3 := D.c.o3
  have o := D.o
  exact ⟨D.c.frR f, Fr_blk f D.bs (by omega), o⟩
set_option maxHeartbeats 4000000 in
theorem code1_any (hl : l.length ≤ 1073741824) (D0 : CR h g gr rc p vp) (name : List UInt8) (q n : Nat) (hn : n < 4294967296) (x : Bool × List UInt8) (D : CI h g gr rc p vp rb fb2 fb sb c vH x hx) (H : Rdr hx gr l s) :
    HCalls Try.prog 92 #[str name, .int .i64 q, .int .i64 n, .pointer (some ⟨rb, 0, none⟩), .pointer (some ⟨sb, 0, none⟩), .pointer (some ⟨fb, 0, none⟩)] hx (TkP gr l (CI h g gr rc p vp rb fb2 fb sb c vH) x s (smT l name q n x s)) := by
  refine C.cr_code_1_calls (args := [str name, .int .i64 q, .int .i64 n, .pointer (some ⟨rb, 0, none⟩), .pointer (some ⟨sb, 0, none⟩), .pointer (some ⟨fb, 0, none⟩)]) rfl ?_
  have o1 := D.c.o1
  have o2 := D.c.o2
  have o3 := D.c.o3
  have o := D.o
  by_cases hnm : name = smN
  case neg =>
    have hn' : ¬ name = [83, 116, 97, 99, 107, 77, 97, 112, 84, 97, 98, 108, 101] := hnm
    have hT : smT l name q n x s = none := by unfold smT; rw [if_neg hnm]
    rw [hT]
    simp (disch := first | omega | assumption) only [C.cr_code_1_gos, T.tv, ↓reduceIte, Nat.reduceEqDiff, reduceCtorEq, Nat.reduceLeDiff, Nat.reducePow, Int.reducePow, Int.reduceToNat, Nat.reduceAdd, eq_false hn']
    exact ⟨rfl, D, H⟩
  have hn' : name = [83, 116, 97, 99, 107, 77, 97, 112, 84, 97, 98, 108, 101] := hnm
  have hT : smT l name q n x s = some ((true, (takeS l n (onceR x.1 q s)).1), (takeS l n (onceR x.1 q s)).2) := by unfold smT; rw [if_pos hnm]
  rw [hT]
  have kr := D.c.t.kr
  have ks : cellAt hx ⟨sb, 0, none⟩ = some (.bool x.1) := by rw [cellAt_of D.bs]; rfl
  have kz : frozenAt hx ⟨sb, 0, none⟩ = false := by simp [frozenAt, D.bs]
  simp (disch := first | omega | assumption) only [C.cr_code_1_gos, T.tv, ↓reduceIte, Nat.reduceEqDiff, reduceCtorEq, Nat.reduceLeDiff, Nat.reducePow, Int.reducePow, Int.reduceToNat, Nat.reduceAdd, eq_true hn', kr]
  refine eff_callF rfl ((once_any x.1 sb 0 q D.c.t.cr.rd ks kz (by omega) H).mono ?_)
  rintro _ _ ⟨h2, f2, r2, rfl, c2⟩
  have D2 := D.frR f2
  clear kr ks kz D H
  have f3 : Fr (fun k => k = sb) h2 (setAt h2 ⟨sb, 0, none⟩ (.bool true)) := Fr.set (S := fun k => k = sb) _ _ _ fun _ => rfl
  have b3 := setAt_get (o := 0) D2.bs (.bool true)
  have D3 : CI h g gr rc p vp rb fb2 fb sb c vH (true, x.2) (setAt h2 ⟨sb, 0, none⟩ (.bool true)) :=
    ⟨D2.c.out D0 f3 (by omega) (by omega) (by omega) (by omega) (Own_ne D2.c.own D2.bs (by decide)), by rw [b3]; simp, o⟩
  have r3 : Rdr (setAt h2 ⟨sb, 0, none⟩ (.bool true)) gr l _ := r2.fr f3 (by omega)
  generalize setAt h2 ⟨sb, 0, none⟩ (.bool true) = h3 at *
  clear b3 f3 c2 r2 D2 f2
  have kr := D3.c.t.kr
  have k0 := D3.c.t.cr.rd.k0
  simp (disch := first | omega | assumption) only [C.cr_code_1_gos, T.tv, ↓reduceIte, Nat.reduceEqDiff, reduceCtorEq, Nat.reduceLeDiff, Nat.reducePow, Int.reducePow, Int.reduceToNat, Nat.reduceAdd, kr, k0]
  refine eff_callF rfl ((take_any n hl (by omega) r3).mono ?_)
  rintro _ h4 ⟨f4, r4, rfl⟩
  have D4 := D3.frR f4
  have k4 : cellAt h4 ⟨fb, 4, none⟩ = some (str x.2) := by rw [cellAt_of D4.c.bf]; rfl
  have kz : frozenAt h4 ⟨fb, 4, none⟩ = false := by simp [frozenAt, D4.c.bf]
  simp (disch := first | omega | assumption) only [C.cr_code_1_gos, T.tv, ↓reduceIte, Nat.reduceEqDiff, reduceCtorEq, Nat.reduceLeDiff, Nat.reducePow, Int.reducePow, Int.reduceToNat, Nat.reduceAdd]
  refine eff_store1_z T.zr_9 rfl rfl rfl rfl rfl k4 kz ?_
  generalize takeS l n (onceR x.1 q s) = v at *
  have f5 : Fr (fun k => k = fb) h4 (setAt h4 ⟨fb, 4, none⟩ (str v.1)) := Fr.set (S := fun k => k = fb) _ _ _ fun _ => rfl
  have b5 := setAt_get (o := 4) D4.c.bf (str v.1)
  simp (disch := first | omega | assumption) only [C.cr_code_1_gos, T.tv, ↓reduceIte, Nat.reduceEqDiff, reduceCtorEq, Nat.reduceLeDiff, Nat.reducePow, Int.reducePow, Int.reduceToNat, Nat.reduceAdd]
  exact ⟨rfl, ⟨D4.c.set D0 (c' := ⟨c.maxS, c.maxL, c.bytes, c.hs, v.1⟩) f5 (by rw [b5]; simp [CdeV]) D4.c.own, Fr_blk f5 D4.bs (by omega), o⟩, r4.fr f5 (by omega)⟩
set_option maxHeartbeats 8000000 in
theorem code_any (hl : l.length ≤ 1073741824) (D0 : CR h g gr rc p vp) (H : Rdr h gr l s) :
    HCalls Try.prog 82 #[.pointer (some ⟨g, 0, none⟩)] h fun r h' => FrR gr h h' ∧ Rdr h' gr l (codeR p l s).2 ∧ ∃ vH, r = .agg (CdeV (codeR p l s).1 vH).toArray ∧ Own h' h.size 132 4 vH (codeR p l s).1.hs.length (flatH (codeR p l s).1.hs) := by
  refine C.cr_code_calls (args := [.pointer (some ⟨g, 0, none⟩)]) rfl ?_
  have hgr := H.lt
  have hg : g < h.size := (Array.getElem?_eq_some_iff.1 D0.rd).1
  simp (disch := first | omega | assumption) only [C.cr_code_gos, T.tv, ↓reduceIte, Nat.reduceEqDiff, reduceCtorEq, Nat.reduceLeDiff, Nat.reducePow, Int.reducePow, Int.reduceToNat, Nat.reduceAdd]
  refine eff_box ?_
  have e1 : Ext h (h.push (.cells #[.pointer (some ⟨g, 0, none⟩)] 100)) := Ext.push _ _
  have b1 : (h.push (.cells #[.pointer (some ⟨g, 0, none⟩)] 100))[h.size]? = some (.cells #[.pointer (some ⟨g, 0, none⟩)] 100 (0, 0)) := by simp
  have s1 : (h.push (.cells #[.pointer (some ⟨g, 0, none⟩)] 100)).size = h.size + 1 := by simp
  simp (disch := first | omega | assumption) only [C.cr_code_gos, T.tv, ↓reduceIte, Nat.reduceEqDiff, reduceCtorEq, Nat.reduceLeDiff, Nat.reducePow, Int.reducePow, Int.reduceToNat, Nat.reduceAdd]
  generalize h.push (.cells #[.pointer (some ⟨g, 0, none⟩)] 100) = h1 at *
  obtain ⟨rb, hrb⟩ : ∃ x, x = h.size := ⟨_, rfl⟩
  rw [← hrb] at b1 ⊢
  refine eff_alloc_z T.zr_79 ?_
  have e2 : Ext h1 (h1.push (.cells #[.int .i64 0, .int .i64 0, str [], .slice none 0 0, str []] 79)) := Ext.push _ _
  have b2 : (h1.push (.cells #[.int .i64 0, .int .i64 0, str [], .slice none 0 0, str []] 79))[h1.size]? = some (.cells #[.int .i64 0, .int .i64 0, str [], .slice none 0 0, str []] 79 (0, 0)) := by simp
  have b12 := Fr_blk e2 b1 id
  have s2 : (h1.push (.cells #[.int .i64 0, .int .i64 0, str [], .slice none 0 0, str []] 79)).size = h1.size + 1 := by simp
  obtain ⟨fb2, hfb2⟩ : ∃ x, x = h1.size := ⟨_, rfl⟩
  rw [← hfb2] at b2
  have X : FrR gr h (h1.push (.cells #[.int .i64 0, .int .i64 0, str [], .slice none 0 0, str []] 79)) := FrR.ext (e1.trans e2)
  have hjoin : ∀ (h3 : Heap) (fb a b : Nat) (t : RS), CR h3 g gr rc p vp → h3[rb]? = some (.cells #[.pointer (some ⟨g, 0, none⟩)] 100 (0, 0)) → h3[fb2]? = some (.cells #[.int .i64 0, .int .i64 0, str [], .slice none 0 0, str []] 79 (0, 0)) →
      h3[fb]? = some (.cells (CdeV ⟨(a : Int), (b : Int), [], [], []⟩ (.slice none 0 0)).toArray 79 (0, 0)) → FrR gr h h3 → fb2 < fb → Rdr h3 gr l t → (a, b, t) = ((numS l 2 s).1, (numS l 2 (numS l 2 s).2).1, (numS l 2 (numS l 2 s).2).2) →
      Cd.vc Try.prog C.cr_code_t0 (retQ Try.prog [(2, some 79)] fun r h' => FrR gr h h' ∧ Rdr h' gr l (codeR p l s).2 ∧ ∃ vH, r = .agg (CdeV (codeR p l s).1 vH).toArray ∧ Own h' rb 132 4 vH (codeR p l s).1.hs.length (flatH (codeR p l s).1.hs)) [(0, .pointer (some ⟨g, 0, none⟩)), (1, .pointer (some ⟨rb, 0, none⟩)), (2, .pointer (some ⟨fb2, 0, none⟩)), (3, .pointer (some ⟨fb, 0, none⟩)), (4, undef), (5, undef), (42, undef)] h3 := by
    intro h3 fb a b t D3 br3 b23 bf3 x3 hlt r3 hR
    rw [C.cr_code_t0_go]
    have hb2 : fb2 < fb := hlt
    have C3 : CC h g gr rc p vp rb fb2 fb ⟨(a : Int), (b : Int), [], [], []⟩ (.slice none 0 0) h3 := ⟨⟨D3, br3, b23, x3, by omega, by omega⟩, bf3, Own.nil, by omega, ⟨by omega, hlt⟩, ⟨hg, hgr⟩⟩
    clear D3 br3 b23 bf3 x3
    have kr := C3.t.kr
    have k0 := C3.t.cr.rd.k0
    simp (disch := first | omega | assumption) only [C.cr_code_gos, T.tv, ↓reduceIte, Nat.reduceEqDiff, reduceCtorEq, Nat.reduceLeDiff, Nat.reducePow, Int.reducePow, Int.reduceToNat, Nat.reduceAdd, kr, k0]
    refine eff_callF rfl ((num_any 4 hl (by omega) r3).mono ?_)
    rintro _ h4 ⟨f4, r4, rfl⟩
    have hn4 := @numS_lt l 4 t
    simp only [Nat.reducePow] at hn4
    obtain ⟨N, hN⟩ : ∃ N, N = numS l 4 t := ⟨_, rfl⟩
    rw [← hN] at r4 hn4 ⊢
    have C4 := C3.frR f4
    clear kr k0 C3 r3 f4
    have kr := C4.t.kr
    have k0 := C4.t.cr.rd.k0
    simp (disch := first | omega | assumption) only [C.cr_code_gos, T.tv, ↓reduceIte, Nat.reduceEqDiff, reduceCtorEq, Nat.reduceLeDiff, Nat.reducePow, Int.reducePow, Int.reduceToNat, Nat.reduceAdd, kr, k0]
    refine eff_callF rfl ((take_any N.1 hl (by omega) r4).mono ?_)
    rintro _ h5 ⟨f5, r5, rfl⟩
    have C5 := C4.frR f5
    obtain ⟨M, hM⟩ : ∃ M, M = takeS l N.1 N.2 := ⟨_, rfl⟩
    rw [← hM] at r5 ⊢
    have k2 : cellAt h5 ⟨fb, 2, none⟩ = some (str []) := by rw [cellAt_of C5.bf]; rfl
    have kz : frozenAt h5 ⟨fb, 2, none⟩ = false := by simp [frozenAt, C5.bf]
    clear kr k0 C4 r4 f5
    simp (disch := first | omega | assumption) only [C.cr_code_gos, T.tv, ↓reduceIte, Nat.reduceEqDiff, reduceCtorEq, Nat.reduceLeDiff, Nat.reducePow, Int.reducePow, Int.reduceToNat, Nat.reduceAdd]
    refine eff_store1_z T.zr_9 rfl rfl rfl rfl rfl k2 kz ?_
    have f6 : Fr (fun k => k = fb) h5 (setAt h5 ⟨fb, 2, none⟩ (str M.1)) := Fr.set (S := fun k => k = fb) _ _ _ fun _ => rfl
    have b6 := setAt_get (o := 2) C5.bf (str M.1)
    have C6 : CC h g gr rc p vp rb fb2 fb ⟨(a : Int), (b : Int), M.1, [], []⟩ (.slice none 0 0) (setAt h5 ⟨fb, 2, none⟩ (str M.1)) := C5.set D0 f6 (by rw [b6]; simp [CdeV]) Own.nil
    have r6 := r5.fr f6 (show ¬ gr = fb by omega)
    generalize setAt h5 ⟨fb, 2, none⟩ (str M.1) = h6 at *
    clear k2 kz C5 r5 f6 b6
    have kr := C6.t.kr
    have k0 := C6.t.cr.rd.k0
    simp (disch := first | omega | assumption) only [C.cr_code_gos, T.tv, ↓reduceIte, Nat.reduceEqDiff, reduceCtorEq, Nat.reduceLeDiff, Nat.reducePow, Int.reducePow, Int.reduceToNat, Nat.reduceAdd, kr, k0]
    refine eff_callF rfl ((num_any 2 hl (by omega) r6).mono ?_)
    rintro _ h7 ⟨f7, r7, rfl⟩
    have C7 := C6.frR f7
    have hk := @numS_lt l 2 M.2
    simp only [Nat.reducePow] at hk
    obtain ⟨K, hK⟩ : ∃ K, K = numS l 2 M.2 := ⟨_, rfl⟩
    rw [← hK] at r7 hk ⊢
    clear kr k0 C6 r6 f7
    obtain ⟨R, hRR⟩ : ∃ R, R = loopS (hndR l) K.1 [] K.2 := ⟨_, rfl⟩
    simp (disch := first | omega | assumption) only [C.cr_code_gos, T.tv, ↓reduceIte, Nat.reduceEqDiff, reduceCtorEq, Nat.reduceLeDiff, Nat.reducePow, Int.reducePow, Int.reduceToNat, Nat.reduceAdd]
    refine loop_intro [0, 1, 2, 3, 4] (fun m ρ hc => ∃ (k : Nat) (hs : List Hnd) (vH : Value) (u : RS), m = k ∧ hs.length + k ≤ 65535 ∧ ρ = [(0, .pointer (some ⟨g, 0, none⟩)), (1, .pointer (some ⟨rb, 0, none⟩)), (2, .pointer (some ⟨fb2, 0, none⟩)), (3, .pointer (some ⟨fb, 0, none⟩)), (4, .int .i64 k)] ∧
        CC h g gr rc p vp rb fb2 fb ⟨(a : Int), (b : Int), M.1, hs, []⟩ vH hc ∧ Rdr hc gr l u ∧ loopS (hndR l) k hs u = R) ?_ ?_
    · simp (disch := first | omega | assumption) only [C.cr_code_gos, T.tv, ↓reduceIte, Nat.reduceEqDiff, reduceCtorEq, Nat.reduceLeDiff, Nat.reducePow, Int.reducePow, Int.reduceToNat, Nat.reduceAdd]
      exact ⟨_, K.1, [], _, K.2, rfl, by simp; omega, rfl, C7, r7, hRR.symm⟩
    clear C7 r7
    rintro m ρ hc ⟨k, hs, vH, u, rfl, hkk, rfl, Cx, ru, hL⟩
    have kr := Cx.t.kr
    have k0 := Cx.t.cr.rd.k0
    refine Or.elim (Classical.em (0 < m ∧ u.e = 0)) (fun hgo => ?caG) (fun hgo => ?cbG)
    case caG =>
      obtain ⟨hpos, he⟩ := hgo
      obtain ⟨j, rfl⟩ : ∃ j, m = j + 1 := ⟨m - 1, by omega⟩
      have hpos' : (0 : Int) < ((j + 1 : Nat) : Int) := by omega
      have he' : (decide (u.e ≠ 0)) = false := by simp [he]
      rw [loopS, if_neg (by simp [he])] at hL
      simp (disch := first | omega | assumption) only [C.cr_code_gos, T.tv, ↓reduceIte, Nat.reduceEqDiff, reduceCtorEq, Nat.reduceLeDiff, Nat.reducePow, Int.reducePow, Int.reduceToNat, Nat.reduceAdd, hpos', kr, k0]
      refine eff_callF rfl ((bad_any ru).mono ?_)
      rintro _ hd ⟨rfl, rfl⟩
      have k3 : cellAt hd ⟨fb, 3, none⟩ = some vH := by rw [cellAt_of Cx.bf]; rfl
      simp (disch := first | omega | assumption) only [C.cr_code_gos, T.tv, ↓reduceIte, Nat.reduceEqDiff, reduceCtorEq, Nat.reduceLeDiff, Nat.reducePow, Int.reducePow, Int.reduceToNat, Nat.reduceAdd, he', kr, k0, k3]
      refine eff_callF rfl ((num_any 2 hl (by omega) ru).mono ?_)
      rintro _ z1 ⟨g1, q1, rfl⟩
      have E1 := Cx.frR g1
      clear kr k0 k3 Cx ru g1
      have kr := E1.t.kr
      have k0 := E1.t.cr.rd.k0
      have k3 : cellAt z1 ⟨fb, 3, none⟩ = some vH := by rw [cellAt_of E1.bf]; rfl
      simp (disch := first | omega | assumption) only [C.cr_code_gos, T.tv, ↓reduceIte, Nat.reduceEqDiff, reduceCtorEq, Nat.reduceLeDiff, Nat.reducePow, Int.reducePow, Int.reduceToNat, Nat.reduceAdd, kr, k0, k3]
      refine eff_callF rfl ((num_any 2 hl (by omega) q1).mono ?_)
      rintro _ z2 ⟨g2, q2, rfl⟩
      have E2 := E1.frR g2
      clear kr k0 k3 E1 q1 g2
      have kr := E2.t.kr
      have k0 := E2.t.cr.rd.k0
      have k3 : cellAt z2 ⟨fb, 3, none⟩ = some vH := by rw [cellAt_of E2.bf]; rfl
      simp (disch := first | omega | assumption) only [C.cr_code_gos, T.tv, ↓reduceIte, Nat.reduceEqDiff, reduceCtorEq, Nat.reduceLeDiff, Nat.reducePow, Int.reducePow, Int.reduceToNat, Nat.reduceAdd, kr, k0, k3]
      refine eff_callF rfl ((num_any 2 hl (by omega) q2).mono ?_)
      rintro _ z3 ⟨g3, q3, rfl⟩
      have E3 := E2.frR g3
      clear kr k0 k3 E2 q2 g3
      have kr := E3.t.kr
      have k0 := E3.t.cr.rd.k0
      have k3 : cellAt z3 ⟨fb, 3, none⟩ = some vH := by rw [cellAt_of E3.bf]; rfl
      simp (disch := first | omega | assumption) only [C.cr_code_gos, T.tv, ↓reduceIte, Nat.reduceEqDiff, reduceCtorEq, Nat.reduceLeDiff, Nat.reducePow, Int.reducePow, Int.reduceToNat, Nat.reduceAdd, kr, k0, k3]
      refine eff_callF rfl ((index_any hl q3).mono ?_)
      rintro _ z4 ⟨g4, q4, rfl⟩
      have E4 := E3.frR g4
      clear kr k0 k3 E3 q3 g4
      have kr := E4.t.kr
      have k0 := E4.t.cr.rd.k0
      have k3 : cellAt z4 ⟨fb, 3, none⟩ = some vH := by rw [cellAt_of E4.bf]; rfl
      simp (disch := first | omega | assumption) only [C.cr_code_gos, T.tv, ↓reduceIte, Nat.reduceEqDiff, reduceCtorEq, Nat.reduceLeDiff, Nat.reducePow, Int.reducePow, Int.reduceToNat, Nat.reduceAdd, kr, k0, k3]
      change loopS (hndR l) j (hs ++ [(hndR l u).1]) (hndR l u).2 = R at hL
      have hx : (hndR l u).1.cells = [.int .i64 ((numS l 2 u).1 : Int), .int .i64 ((numS l 2 (numS l 2 u).2).1 : Int), .int .i64 ((numS l 2 (numS l 2 (numS l 2 u).2).2).1 : Int), .int .u16 ((numS l 2 (numS l 2 (numS l 2 (numS l 2 u).2).2).2).1 : Int)] := rfl
      refine eff_lits T.slT_77 rfl rfl (by decide) ?_
      have hlt4 := (Array.getElem?_eq_some_iff.1 E4.bf).1
      have ex : Ext z4 (z4.push (.cells (hndR l u).1.cells.toArray 132)) := Ext.push _ _
      have ba : (z4.push (.cells (hndR l u).1.cells.toArray 132))[z4.size]? = some (.cells (hndR l u).1.cells.toArray 132 (0, 0)) := by simp
      have E5 := E4.frR (FrR.ext ex)
      have q5 := q4.fr ex id
      rw [hx] at ex ba E5 q5
      simp (disch := first | omega | assumption) only [C.cr_code_gos, T.tv, ↓reduceIte, Nat.reduceEqDiff, reduceCtorEq, Nat.reduceLeDiff, Nat.reducePow, Int.reducePow, Int.reduceToNat, Nat.reduceAdd]
      refine ⟨by rw [cellAt_of E5.bf]; rfl, ?_⟩
      generalize z4.push _ = z5 at *
      generalize z4.size = lb at *
      rw [← hx] at ba
      have hsl : SlN z5 4 (.slice (some ⟨lb, 0, none⟩) 1 1) 1 (hndR l u).1.cells := ⟨rfl, _, _, rfl, .inr ⟨lb, 0, rfl, Rd_block ba⟩⟩
      have hone : ∀ w ∈ (hndR l u).1.cells, oneCell w = true := fun w hw => one_H [(hndR l u).1] w (by simpa [flatH] using hw)
      refine eff_append_slN (m := 1) (news := (hndR l u).1.cells) T.slT_77 rfl rfl E5.own hsl hone (by simp only; omega) (by simp only; omega) E5.t.fr.size ?_
      intro vH2 z6 own6 fr6
      have k36 : cellAt z6 ⟨fb, 3, none⟩ = some vH := by
        rw [cellAt_of (Fr_blk fr6 E5.bf (Own_ne E5.own E5.bf (by decide)))]; rfl
      have o1 := E5.o1
      have o2 := E5.o2
      have frh : FrR gr h z6 := Fr.trans E5.t.fr fr6 (fun _ _ hh => hh) (fun k hk hS => by have := (E5.own.lt k hS).1; omega)
      have b6' := Fr_blk fr6 E5.bf (Own_ne E5.own E5.bf (by decide))
      have cr6 : CR z6 g gr rc p vp := ⟨Fr_blk fr6 E5.t.cr.rd (Own_ne E5.own E5.t.cr.rd (by decide)), D0.pl.fr (by decide) frh (fun k _ hk hS => D0.nb (by rw [hk, hS])), D0.v5, D0.nb, D0.ne⟩
      have br6 := Fr_blk fr6 E5.t.br (Own_ne E5.own E5.t.br (by decide))
      have bb6 := Fr_blk fr6 E5.t.b2 (Own_ne E5.own E5.t.b2 (by decide))
      have q6 := q5.fr fr6 (fun hS => by have := (E5.own.lt gr hS).1; omega)
      obtain ⟨a6, c6, rfl, _⟩ := own6.slN.2
      have kz : frozenAt z6 ⟨fb, 3, none⟩ = false := by simp [frozenAt, b6']
      simp only at own6
      simp (disch := first | omega | assumption) only [C.cr_code_gos, T.tv, ↓reduceIte, Nat.reduceEqDiff, reduceCtorEq, Nat.reduceLeDiff, Nat.reducePow, Int.reducePow, Int.reduceToNat, Nat.reduceAdd]
      refine eff_store1_z T.zr_77 rfl rfl rfl rfl rfl k36 kz ?_
      have f7 : Fr (fun k => k = fb) z6 (setAt z6 ⟨fb, 3, none⟩ (.slice a6 (hs.length + 1) c6)) := Fr.set (S := fun k => k = fb) _ _ _ fun _ => rfl
      have b7 := setAt_get (o := 3) b6' (.slice a6 (hs.length + 1) c6)
      have C8 : CC h g gr rc p vp rb fb2 fb ⟨(a : Int), (b : Int), M.1, hs ++ [(hndR l u).1], []⟩ (.slice a6 (hs.length + 1) c6) (setAt z6 ⟨fb, 3, none⟩ (.slice a6 (hs.length + 1) c6)) :=
        ⟨⟨cr6.old D0 f7 frh hg (by omega), Fr_blk f7 br6 (by omega), Fr_blk f7 bb6 (by omega), frh.new f7 (by omega), E5.t.n1, E5.t.n2⟩, by rw [b7]; simp [CdeV], Own_cast (own6.fr f7 (fun k hk hS => by
          subst hS
          exact Own_ne own6 b6' (by decide) hk)) (by simp) (by simp [flatH]), o1, o2, E5.o3⟩
      have hw : IntKind.i64.wrap (((j + 1 : Nat) : Int) - 1) = (j : Int) := by rw [wrap_i64 (by omega) (by omega)]; omega
      simp (disch := first | omega | assumption) only [C.cr_code_gos, T.tv, ↓reduceIte, Nat.reduceEqDiff, reduceCtorEq, Nat.reduceLeDiff, Nat.reducePow, Int.reducePow, Int.reduceToNat, Nat.reduceAdd, hw]
      exact ⟨_, by omega, j, hs ++ [(hndR l u).1], _, _, rfl, by simp; omega, rfl, C8, q6.fr f7 (by omega), hL⟩
    have hR2 : R = (hs, u) := by
      rw [← hL]
      rcases Nat.eq_zero_or_pos m with h0 | h0
      · subst h0; rfl
      · exact loopS_bad (fun he => hgo ⟨h0, he⟩)
    refine Or.elim (Classical.em (m = 0)) (fun h0 => ?ccG) (fun h0 => ?cdG)
    case' ccG =>
      have hz : ¬ (0 : Int) < (m : Int) := by omega
      simp (disch := first | omega | assumption) only [C.cr_code_gos, T.tv, ↓reduceIte, Nat.reduceEqDiff, reduceCtorEq, Nat.reduceLeDiff, Nat.reducePow, Int.reducePow, Int.reduceToNat, Nat.reduceAdd, hz]
    case' cdG =>
      have hz : (0 : Int) < (m : Int) := by omega
      simp (disch := first | omega | assumption) only [C.cr_code_gos, T.tv, ↓reduceIte, Nat.reduceEqDiff, reduceCtorEq, Nat.reduceLeDiff, Nat.reducePow, Int.reducePow, Int.reduceToNat, Nat.reduceAdd, hz, kr, k0]
      refine eff_callF rfl ((bad_any ru).mono ?_)
      rintro _ hd ⟨e1, rfl⟩
      rw [e1]
      clear e1 hd
      have he' : (decide (u.e ≠ 0)) = true := decide_eq_true (fun he => hgo ⟨by omega, he⟩)
      simp (disch := first | omega | assumption) only [C.cr_code_gos, T.tv, ↓reduceIte, Nat.reduceEqDiff, reduceCtorEq, Nat.reduceLeDiff, Nat.reducePow, Int.reducePow, Int.reduceToNat, Nat.reduceAdd, he']
    all_goals
      clear hz h0 hgo kr k0 hL
      have hfb := (Array.getElem?_eq_some_iff.1 Cx.bf).1
      refine eff_alloc_z T.zr_4 ?_
      simp (disch := first | omega | assumption) only [C.cr_code_gos, T.tv, ↓reduceIte, Nat.reduceEqDiff, reduceCtorEq, Nat.reduceLeDiff, Nat.reducePow, Int.reducePow, Int.reduceToNat, Nat.reduceAdd]
      refine eff_store_new_z T.zr_4 rfl rfl rfl (by simp [Value.cells, oneCell]) rfl ?_
      intro h8 x8 hlt8 hrd8 b8
      change h8[hc.size]? = some (.cells #[.bool false] 4 (0, 0)) at b8
      have I0 : CI h g gr rc p vp rb fb2 fb hc.size ⟨(a : Int), (b : Int), M.1, hs, []⟩ vH (false, []) h8 := ⟨Cx.frR (FrR.ext x8), b8, hfb⟩
      have r8 := ru.fr x8 id
      have kr := I0.c.t.kr
      simp (disch := first | omega | assumption) only [C.cr_code_gos, T.tv, ↓reduceIte, Nat.reduceEqDiff, reduceCtorEq, Nat.reduceLeDiff, Nat.reducePow, Int.reducePow, Int.reduceToNat, Nat.reduceAdd, kr]
      refine eff_call_of ?_
      simp (disch := first | omega | assumption) only [C.cr_code_gos, T.tv, ↓reduceIte, Nat.reduceEqDiff, reduceCtorEq, Nat.reduceLeDiff, Nat.reducePow, Int.reducePow, Int.reduceToNat, Nat.reduceAdd]
      refine (attributes_any p vp (smT l) 92 #[.pointer (some ⟨rb, 0, none⟩), .pointer (some ⟨hc.size, 0, none⟩), .pointer (some ⟨fb, 0, none⟩)]
        (fun x hh => CI h g gr rc p vp rb fb2 fb hc.size ⟨(a : Int), (b : Int), M.1, hs, []⟩ vH x hh) hl (by decide +kernel) D0.v5 (fun x hh hx => ⟨hx.c.t.cr.rd, hx.c.t.cr.pl⟩) (fun x hh hh' hx f => hx.frR f) ?_ (false, []) I0 r8).mono ?_
      · intro hh name q n x s1 hx hr he hq hn
        exact code1_any hl D0 name q n hn x hx hr
      rintro _ h9 ⟨I9, r9⟩
      have hcd : codeR p l s = ((⟨(a : Int), (b : Int), M.1, hs, (attrsR p l (smT l) (numS l 2 u).1 (false, []) (numS l 2 u).2).1.2⟩ : Cde), (attrsR p l (smT l) (numS l 2 u).1 (false, []) (numS l 2 u).2).2) := by
        simp only [Prod.mk.injEq] at hR
        unfold codeR
        simp only [← hR.1, ← hR.2.1, ← hR.2.2, ← hN, ← hM, ← hK, ← hRR, hR2]
      generalize attrsR p l (smT l) (numS l 2 u).1 (false, []) (numS l 2 u).2 = Y at *
      rw [hcd]
      obtain ⟨aH, cH, rfl, _⟩ := I9.c.own.slN.2
      have hld := ld_agg T.ag_79 (Rd_block I9.c.bf) rfl
      simp only [CdeV] at hld
      simp (disch := first | omega | assumption) only [C.cr_code_gos, T.tv, ↓reduceIte, Nat.reduceEqDiff, reduceCtorEq, Nat.reduceLeDiff, Nat.reducePow, Int.reducePow, Int.reduceToNat, Nat.reduceAdd, hld]
      refine eff_storeN_zz T.zr_79 rfl rfl rfl (by simp [Value.cells, oneCell, str]) I9.c.t.b2 (by decide) (fun j _ _ => by simp) ?_
      intro h10 f10 b10
      have hrd : Rd h10 fb2 0 (CdeV ⟨(a : Int), (b : Int), M.1, hs, Y.1.2⟩ (.slice aH hs.length cH)) := Rd_block (by simpa [Value.cells, CdeV] using b10)
      have hld10 := ld_agg T.ag_79 hrd rfl
      simp only [CdeV] at hld10
      have o10 := I9.c.o1
      have o2 := I9.c.o2
      simp (disch := first | omega | assumption) only [C.cr_code_gos, T.tv, ↓reduceIte, Nat.reduceEqDiff, reduceCtorEq, Nat.reduceLeDiff, Nat.reducePow, Int.reducePow, Int.reduceToNat, Nat.reduceAdd, hld10]
      refine ⟨I9.c.t.fr.new f10 (by omega), r9.fr f10 (by omega), .slice aH hs.length cH, rfl, ?_⟩
      rw [hrb]
      exact I9.c.own.fr f10 (fun k hk hS => by
        subst hS
        exact Own_ne I9.c.own I9.c.t.b2 (by decide) hk)
  have r2 := H.fr (e1.trans e2) id
  have c2 := D0.frR X
  generalize h1.push (.cells #[.int .i64 0, .int .i64 0, str [], .slice none 0 0, str []] 79) = h2 at *
  rw [← hfb2]
  clear b1 e1 e2
  have hlt2 : fb2 < h2.size := by omega
  have kr : cellAt h2 ⟨rb, 0, none⟩ = some (.pointer (some ⟨g, 0, none⟩)) := by rw [cellAt_of b12]; rfl
  have k0 := c2.rd.k0
  simp (disch := first | omega | assumption) only [C.cr_code_gos, T.tv, ↓reduceIte, Nat.reduceEqDiff, reduceCtorEq, Nat.reduceLeDiff, Nat.reducePow, Int.reducePow, Int.reduceToNat, Nat.reduceAdd, kr, k0]
  have D2 : FT h g gr rc p vp rb fb2 79 #[.int .i64 0, .int .i64 0, str [], .slice none 0 0, str []] h2 := ⟨c2, b12, b2, X, by omega, by omega⟩
  clear b12 b2 X c2 s2
  refine ⟨?_, ?_⟩
  · refine eff_callF rfl ((num_any 2 hl (by omega) r2).mono ?_)
    rintro _ y1 ⟨f1, r1, rfl⟩
    have D1 := D2.frR f1
    clear kr k0
    have kr := D1.kr
    have k0 := D1.cr.rd.k0
    simp (disch := first | omega | assumption) only [C.cr_code_gos, T.tv, ↓reduceIte, Nat.reduceEqDiff, reduceCtorEq, Nat.reduceLeDiff, Nat.reducePow, Int.reducePow, Int.reduceToNat, Nat.reduceAdd, kr, k0]
    refine ⟨?_, ?_⟩
    · refine eff_callF rfl ((num_any 2 hl (by omega) r1).mono ?_)
      rintro _ y2 ⟨f2, r2, rfl⟩
      have D2 := D1.frR f2
      clear kr k0
      have kr := D2.kr
      have k0 := D2.cr.rd.k0
      simp (disch := first | omega | assumption) only [C.cr_code_gos, T.tv, ↓reduceIte, Nat.reduceEqDiff, reduceCtorEq, Nat.reduceLeDiff, Nat.reducePow, Int.reducePow, Int.reduceToNat, Nat.reduceAdd, kr, k0]
      refine eff_alloc_z T.zr_79 ?_
      have ex : Ext y2 (y2.push (.cells #[.int .i64 0, .int .i64 0, str [], .slice none 0 0, str []] 79)) := Ext.push _ _
      have ba : (y2.push (.cells #[.int .i64 0, .int .i64 0, str [], .slice none 0 0, str []] 79))[y2.size]? = some (.cells #[.int .i64 0, .int .i64 0, str [], .slice none 0 0, str []] 79 (0, 0)) := by simp
      have Dx := D2.frR (FrR.ext ex)
      have rx := r2.fr ex id
      have hfl : fb2 < y2.size := (Array.getElem?_eq_some_iff.1 D2.b2).1
      have hfh : h.size ≤ y2.size := D2.fr.size
      generalize y2.push (.cells #[.int .i64 0, .int .i64 0, str [], .slice none 0 0, str []] 79) = ha at *
      generalize y2.size = fb at *
      have hfg : fb ≠ gr := by omega
      clear kr k0
      have kr := Dx.kr
      have k0 := Dx.cr.rd.k0
      simp (disch := first | omega | assumption) only [C.cr_code_gos, T.tv, ↓reduceIte, Nat.reduceEqDiff, reduceCtorEq, Nat.reduceLeDiff, Nat.reducePow, Int.reducePow, Int.reduceToNat, Nat.reduceAdd, kr, k0]
      refine eff_storeN_zz T.zr_79 rfl rfl rfl (by simp [Value.cells, oneCell, str]) ba (by decide) (fun j _ _ => by simp) ?_
      intro yz fz bz
      have o0 := Dx.fr.size
      have dz : CR yz g gr rc p vp := Dx.cr.old D0 fz Dx.fr hg (by omega)
      simp (disch := first | omega | assumption) only [C.cr_code_gos, T.tv, ↓reduceIte, Nat.reduceEqDiff, reduceCtorEq, Nat.reduceLeDiff, Nat.reducePow, Int.reducePow, Int.reduceToNat, Nat.reduceAdd]
      exact hjoin yz fb (numS l 2 s).1 (numS l 2 (numS l 2 s).2).1 (numS l 2 (numS l 2 s).2).2 dz (Fr_blk fz Dx.br (by omega)) (Fr_blk fz Dx.b2 (by omega)) (by simpa [Value.cells, CdeV] using bz) (Dx.fr.new fz (by omega)) (by omega) (rx.fr fz (by omega)) rfl
    · refine eff_alloc_z T.zr_79 ?_
      have ex : Ext y1 (y1.push (.cells #[.int .i64 0, .int .i64 0, str [], .slice none 0 0, str []] 79)) := Ext.push _ _
      have ba : (y1.push (.cells #[.int .i64 0, .int .i64 0, str [], .slice none 0 0, str []] 79))[y1.size]? = some (.cells #[.int .i64 0, .int .i64 0, str [], .slice none 0 0, str []] 79 (0, 0)) := by simp
      have Dx := D1.frR (FrR.ext ex)
      have rx := r1.fr ex id
      have hfl : fb2 < y1.size := (Array.getElem?_eq_some_iff.1 D1.b2).1
      have hfh : h.size ≤ y1.size := D1.fr.size
      generalize y1.push (.cells #[.int .i64 0, .int .i64 0, str [], .slice none 0 0, str []] 79) = ha at *
      generalize y1.size = fb at *
      have hfg : fb ≠ gr := by omega
      clear kr k0
      have kr := Dx.kr
      have k0 := Dx.cr.rd.k0
      simp (disch := first | omega | assumption) only [C.cr_code_gos, T.tv, ↓reduceIte, Nat.reduceEqDiff, reduceCtorEq, Nat.reduceLeDiff, Nat.reducePow, Int.reducePow, Int.reduceToNat, Nat.reduceAdd, kr, k0]
      refine eff_callF rfl ((num_any 2 hl (by omega) rx).mono ?_)
      rintro _ y3 ⟨f3, r3, rfl⟩
      have D3 := Dx.frR f3
      have b3' := Fr_blk f3 ba hfg
      clear kr k0
      have kr := D3.kr
      have k0 := D3.cr.rd.k0
      simp (disch := first | omega | assumption) only [C.cr_code_gos, T.tv, ↓reduceIte, Nat.reduceEqDiff, reduceCtorEq, Nat.reduceLeDiff, Nat.reducePow, Int.reducePow, Int.reduceToNat, Nat.reduceAdd, kr, k0]
      refine eff_storeN_zz T.zr_79 rfl rfl rfl (by simp [Value.cells, oneCell, str]) b3' (by decide) (fun j _ _ => by simp) ?_
      intro yz fz bz
      have o0 := D3.fr.size
      have dz : CR yz g gr rc p vp := D3.cr.old D0 fz D3.fr hg (by omega)
      simp (disch := first | omega | assumption) only [C.cr_code_gos, T.tv, ↓reduceIte, Nat.reduceEqDiff, reduceCtorEq, Nat.reduceLeDiff, Nat.reducePow, Int.reducePow, Int.reduceToNat, Nat.reduceAdd]
      exact hjoin yz fb (numS l 2 s).1 (numS l 2 (numS l 2 s).2).1 (numS l 2 (numS l 2 s).2).2 dz (Fr_blk fz D3.br (by omega)) (Fr_blk fz D3.b2 (by omega)) (by simpa [Value.cells, CdeV] using bz) (D3.fr.new fz (by omega)) (by omega) (r3.fr fz (by omega)) rfl
  · refine eff_alloc_z T.zr_79 ?_
    have ex : Ext h2 (h2.push (.cells #[.int .i64 0, .int .i64 0, str [], .slice none 0 0, str []] 79)) := Ext.push _ _
    have ba : (h2.push (.cells #[.int .i64 0, .int .i64 0, str [], .slice none 0 0, str []] 79))[h2.size]? = some (.cells #[.int .i64 0, .int .i64 0, str [], .slice none 0 0, str []] 79 (0, 0)) := by simp
    have Dx := D2.frR (FrR.ext ex)
    have rx := r2.fr ex id
    have hfl : fb2 < h2.size := (Array.getElem?_eq_some_iff.1 D2.b2).1
    have hfh : h.size ≤ h2.size := D2.fr.size
    generalize h2.push (.cells #[.int .i64 0, .int .i64 0, str [], .slice none 0 0, str []] 79) = ha at *
    generalize h2.size = fb at *
    have hfg : fb ≠ gr := by omega
    clear kr k0
    have kr := Dx.kr
    have k0 := Dx.cr.rd.k0
    simp (disch := first | omega | assumption) only [C.cr_code_gos, T.tv, ↓reduceIte, Nat.reduceEqDiff, reduceCtorEq, Nat.reduceLeDiff, Nat.reducePow, Int.reducePow, Int.reduceToNat, Nat.reduceAdd, kr, k0]
    refine eff_callF rfl ((num_any 2 hl (by omega) rx).mono ?_)
    rintro _ y4 ⟨f4, r4, rfl⟩
    have D4 := Dx.frR f4
    have b4' := Fr_blk f4 ba hfg
    clear kr k0
    have kr := D4.kr
    have k0 := D4.cr.rd.k0
    simp (disch := first | omega | assumption) only [C.cr_code_gos, T.tv, ↓reduceIte, Nat.reduceEqDiff, reduceCtorEq, Nat.reduceLeDiff, Nat.reducePow, Int.reducePow, Int.reduceToNat, Nat.reduceAdd, kr, k0]
    refine eff_callF rfl ((num_any 2 hl (by omega) r4).mono ?_)
    rintro _ y5 ⟨f5, r5, rfl⟩
    have D5 := D4.frR f5
    have b5' := Fr_blk f5 b4' hfg
    clear kr k0
    have kr := D5.kr
    have k0 := D5.cr.rd.k0
    simp (disch := first | omega | assumption) only [C.cr_code_gos, T.tv, ↓reduceIte, Nat.reduceEqDiff, reduceCtorEq, Nat.reduceLeDiff, Nat.reducePow, Int.reducePow, Int.reduceToNat, Nat.reduceAdd, kr, k0]
    refine eff_storeN_zz T.zr_79 rfl rfl rfl (by simp [Value.cells, oneCell, str]) b5' (by decide) (fun j _ _ => by simp) ?_
    intro yz fz bz
    have o0 := D5.fr.size
    have dz : CR yz g gr rc p vp := D5.cr.old D0 fz D5.fr hg (by omega)
    simp (disch := first | omega | assumption) only [C.cr_code_gos, T.tv, ↓reduceIte, Nat.reduceEqDiff, reduceCtorEq, Nat.reduceLeDiff, Nat.reducePow, Int.reducePow, Int.reduceToNat, Nat.reduceAdd]
    exact hjoin yz fb (numS l 2 s).1 (numS l 2 (numS l 2 s).2).1 (numS l 2 (numS l 2 s).2).2 dz (Fr_blk fz D5.br (by omega)) (Fr_blk fz D5.b2 (by omega)) (by simpa [Value.cells, CdeV] using bz) (D5.fr.new fz (by omega)) (by omega) (r5.fr fz (by omega)) rfl
end
end Go.Proofs.Ytohkbpnblkkdgaa
namespace Go.Proofs.Ytohkbpnblkkdgaa
open Go.Vc
set_option maxRecDepth 100000
set_option linter.unusedSimpArgs false
set_option linter.unusedVariables false

/-- A method under way. -/
structure MM (h : Heap) (g gr : Nat) (rc : List Value) (p : List Cst) (vp : Value) (rb fb2 fb f1 f2 f3 : Nat) (x : Bool × Cde) (vH : Value) (hx : Heap) : Prop where
  t : FT h g gr rc p vp rb fb2 81 #[.int .u16 0, .int .u16 0, .int .u16 0, .bool false, .int .i64 0, .int .i64 0, str [], .slice none 0 0, str []] hx
  bf : hx[fb]? = some (.cells (MthV ⟨f1, f2, f3, x.1, x.2⟩ vH).toArray 81 (0, 0))
  own : Own hx h.size 132 4 vH x.2.hs.length (flatH x.2.hs)
  o1 : h.size ≤ rb
  o2 : rb < fb2 ∧ fb2 < fb
  o3 : g < h.size ∧ gr < h.size
section
variable {h hx hy : Heap} {g gr rb fb fb2 f1 f2 f3 : Nat} {rc : List Value} {p : List Cst} {vp : Value} {l : List UInt8} {s : RS} {x : Bool × Cde} {vH : Value}
theorem MM.frR (D : MM h g gr rc p vp rb fb2 fb f1 f2 f3 x vH hx) (f : FrR gr hx hy) : MM h g gr rc p vp rb fb2 fb f1 f2 f3 x vH hy := by
  have o1 := D.o1
  have o2 := D.o2
  have o3 := D.o3
  exact ⟨D.t.frR f, Fr_blk f D.bf (by omega), D.own.fr f (fun k hk hS => by have := (D.own.lt k hk).1; omega), D.o1, D.o2, D.o3⟩
theorem MM.set (D : MM h g gr rc p vp rb fb2 fb f1 f2 f3 x vH hx) (D0 : CR h g gr rc p vp) {y : Bool × Cde} {w : Value} (f : Fr (fun k => k = fb) hx hy) (hb : hy[fb]? = some (.cells (MthV ⟨f1, f2, f3, y.1, y.2⟩ w).toArray 81 (0, 0))) (ho : Own hx h.size 132 4 w y.2.hs.length (flatH y.2.hs)) : MM h g gr rc p vp rb fb2 fb f1 f2 f3 y w hy := by
  have o1 := D.o1
  have o2 := D.o2
  have o3 := D.o3
  exact ⟨⟨D.t.cr.old D0 f D.t.fr o3.1 (by omega), Fr_blk f D.t.br (by omega), Fr_blk f D.t.b2 (by omega), D.t.fr.new f (by omega), D.t.n1, D.t.n2⟩, hb, ho.fr f (fun k hk hS => by
    subst hS
    exact Own_ne ho D.bf (by decide) hk), D.o1, D.o2, D.o3⟩
set_option maxHeartbeats 4000000 in
theorem method1_any (hl : l.length ≤ 1073741824) (D0 : CR h g gr rc p vp) (name : List UInt8) (q n : Nat) (D : MM h g gr rc p vp rb fb2 fb f1 f2 f3 x vH hx) (H : Rdr hx gr l s) :
    HCalls Try.prog 81 #[str name, .int .i64 q, .int .i64 n, .pointer (some ⟨rb, 0, none⟩), .pointer (some ⟨fb, 0, none⟩)] hx (TkP gr l (fun y hh => ∃ w, MM h g gr rc p vp rb fb2 fb f1 f2 f3 y w hh) x s (cdT p l name q n x s)) := by
  refine C.cr_method_1_calls (args := [str name, .int .i64 q, .int .i64 n, .pointer (some ⟨rb, 0, none⟩), .pointer (some ⟨fb, 0, none⟩)]) rfl ?_
  have o1 := D.o1
  have o2 := D.o2
  have o3 := D.o3
  by_cases hnm : name = cdN
  case neg =>
    have hn' : ¬ name = [67, 111, 100, 101] := hnm
    have hT : cdT p l name q n x s = none := by unfold cdT; rw [if_neg hnm]
    rw [hT]
    simp (disch := first | omega | assumption) only [C.cr_method_1_gos, T.tv, ↓reduceIte, Nat.reduceEqDiff, reduceCtorEq, Nat.reduceLeDiff, Nat.reducePow, Int.reducePow, Int.reduceToNat, Nat.reduceAdd, eq_false hn']
    exact ⟨rfl, ⟨vH, D⟩, H⟩
  have hn' : name = [67, 111, 100, 101] := hnm
  have hT : cdT p l name q n x s = some ((true, (codeR p l (onceR x.1 q s)).1), (codeR p l (onceR x.1 q s)).2) := by unfold cdT; rw [if_pos hnm]
  rw [hT]
  have kr := D.t.kr
  have ks : cellAt hx ⟨fb, 3, none⟩ = some (.bool x.1) := by rw [cellAt_of D.bf]; rfl
  have kz : frozenAt hx ⟨fb, 3, none⟩ = false := by simp [frozenAt, D.bf]
  simp (disch := first | omega | assumption) only [C.cr_method_1_gos, T.tv, ↓reduceIte, Nat.reduceEqDiff, reduceCtorEq, Nat.reduceLeDiff, Nat.reducePow, Int.reducePow, Int.reduceToNat, Nat.reduceAdd, eq_true hn', kr]
  refine eff_callF rfl ((once_any x.1 fb 3 q D.t.cr.rd ks kz (by omega) H).mono ?_)
  rintro _ _ ⟨h2, y2, r2, rfl, c2⟩
  have D2 := D.frR y2
  clear kr ks kz D H
  have y3 : Fr (fun k => k = fb) h2 (setAt h2 ⟨fb, 3, none⟩ (.bool true)) := Fr.set (S := fun k => k = fb) _ _ _ fun _ => rfl
  have b3 := setAt_get (o := 3) D2.bf (.bool true)
  have D3 : MM h g gr rc p vp rb fb2 fb f1 f2 f3 (true, x.2) vH (setAt h2 ⟨fb, 3, none⟩ (.bool true)) := D2.set D0 (y := (true, x.2)) y3 (by rw [b3]; simp [MthV, CdeV]) D2.own
  have r3 : Rdr (setAt h2 ⟨fb, 3, none⟩ (.bool true)) gr l _ := r2.fr y3 (by omega)
  generalize setAt h2 ⟨fb, 3, none⟩ (.bool true) = h3 at *
  clear b3 y3 c2 r2 D2 y2
  have kr := D3.t.kr
  simp (disch := first | omega | assumption) only [C.cr_method_1_gos, T.tv, ↓reduceIte, Nat.reduceEqDiff, reduceCtorEq, Nat.reduceLeDiff, Nat.reducePow, Int.reducePow, Int.reduceToNat, Nat.reduceAdd, kr]
  refine eff_callF rfl ((code_any hl D3.t.cr r3).mono ?_)
  rintro _ h4 ⟨y4, r4, w, rfl, own4⟩
  have D4 := D3.frR y4
  generalize codeR p l (onceR x.1 q s) = v at *
  have ownh := own4.mono D3.t.fr.size
  obtain ⟨aH, cH, rfl, _⟩ := own4.slN.2
  simp only [CdeV]
  simp (disch := first | omega | assumption) only [C.cr_method_1_gos, T.tv, ↓reduceIte, Nat.reduceEqDiff, reduceCtorEq, Nat.reduceLeDiff, Nat.reducePow, Int.reducePow, Int.reduceToNat, Nat.reduceAdd]
  refine eff_storeN_zz T.zr_79 rfl rfl rfl (by simp [Value.cells, oneCell, str]) D4.bf (by simp [MthV, CdeV]) (fun j _ _ => by simp) ?_
  intro h5 y5 b5
  have D5 : MM h g gr rc p vp rb fb2 fb f1 f2 f3 (true, v.1) _ h5 := D4.set D0 (y := (true, v.1)) y5 (by rw [b5]; simp [MthV, CdeV, Value.cells]) ownh
  have r5 := r4.fr y5 (show ¬ gr = fb by omega)
  simp (disch := first | omega | assumption) only [C.cr_method_1_gos, T.tv, ↓reduceIte, Nat.reduceEqDiff, reduceCtorEq, Nat.reduceLeDiff, Nat.reducePow, Int.reducePow, Int.reduceToNat, Nat.reduceAdd]
  exact ⟨rfl, ⟨_, D5⟩, r5⟩
set_option maxHeartbeats 8000000 in
theorem method_any (hl : l.length ≤ 1073741824) (D0 : CR h g gr rc p vp) (H : Rdr h gr l s) :
    HCalls Try.prog 55 #[.pointer (some ⟨g, 0, none⟩)] h fun r h' => FrR gr h h' ∧ Rdr h' gr l (methodR p l s).2 ∧ ∃ vH, r = .agg (MthV (methodR p l s).1 vH).toArray ∧ Own h' h.size 132 4 vH (methodR p l s).1.code.hs.length (flatH (methodR p l s).1.code.hs) := by
  refine C.cr_method_calls (args := [.pointer (some ⟨g, 0, none⟩)]) rfl ?_
  have hgr := H.lt
  have hg : g < h.size := (Array.getElem?_eq_some_iff.1 D0.rd).1
  simp (disch := first | omega | assumption) only [C.cr_method_gos, T.tv, ↓reduceIte, Nat.reduceEqDiff, reduceCtorEq, Nat.reduceLeDiff, Nat.reducePow, Int.reducePow, Int.reduceToNat, Nat.reduceAdd]
  refine eff_box ?_
  have e1 : Ext h (h.push (.cells #[.pointer (some ⟨g, 0, none⟩)] 100)) := Ext.push _ _
  have b1 : (h.push (.cells #[.pointer (some ⟨g, 0, none⟩)] 100))[h.size]? = some (.cells #[.pointer (some ⟨g, 0, none⟩)] 100 (0, 0)) := by simp
  have s1 : (h.push (.cells #[.pointer (some ⟨g, 0, none⟩)] 100)).size = h.size + 1 := by simp
  simp (disch := first | omega | assumption) only [C.cr_method_gos, T.tv, ↓reduceIte, Nat.reduceEqDiff, reduceCtorEq, Nat.reduceLeDiff, Nat.reducePow, Int.reducePow, Int.reduceToNat, Nat.reduceAdd]
  generalize h.push (.cells #[.pointer (some ⟨g, 0, none⟩)] 100) = h1 at *
  obtain ⟨rb, hrb⟩ : ∃ x, x = h.size := ⟨_, rfl⟩
  rw [← hrb] at b1 ⊢
  refine eff_alloc_z T.zr_81 ?_
  have e2 : Ext h1 (h1.push (.cells #[.int .u16 0, .int .u16 0, .int .u16 0, .bool false, .int .i64 0, .int .i64 0, str [], .slice none 0 0, str []] 81)) := Ext.push _ _
  have b2 : (h1.push (.cells #[.int .u16 0, .int .u16 0, .int .u16 0, .bool false, .int .i64 0, .int .i64 0, str [], .slice none 0 0, str []] 81))[h1.size]? = some (.cells #[.int .u16 0, .int .u16 0, .int .u16 0, .bool false, .int .i64 0, .int .i64 0, str [], .slice none 0 0, str []] 81 (0, 0)) := by simp
  have b12 := Fr_blk e2 b1 id
  have s2 : (h1.push (.cells #[.int .u16 0, .int .u16 0, .int .u16 0, .bool false, .int .i64 0, .int .i64 0, str [], .slice none 0 0, str []] 81)).size = h1.size + 1 := by simp
  obtain ⟨fb2, hfb2⟩ : ∃ x, x = h1.size := ⟨_, rfl⟩
  rw [← hfb2] at b2
  have X : FrR gr h (h1.push (.cells #[.int .u16 0, .int .u16 0, .int .u16 0, .bool false, .int .i64 0, .int .i64 0, str [], .slice none 0 0, str []] 81)) := FrR.ext (e1.trans e2)
  have hjoin : ∀ (h3 : Heap) (fb f1 f2 f3 : Nat) (t : RS), CR h3 g gr rc p vp → h3[rb]? = some (.cells #[.pointer (some ⟨g, 0, none⟩)] 100 (0, 0)) → h3[fb2]? = some (.cells #[.int .u16 0, .int .u16 0, .int .u16 0, .bool false, .int .i64 0, .int .i64 0, str [], .slice none 0 0, str []] 81 (0, 0)) →
      h3[fb]? = some (.cells (MthV ⟨f1, f2, f3, false, ⟨0, 0, [], [], []⟩⟩ (.slice none 0 0)).toArray 81 (0, 0)) → FrR gr h h3 → fb2 < fb → Rdr h3 gr l t → (f1, f2, f3, t) = ((numS l 2 s).1, (numS l 2 (numS l 2 s).2).1, (numS l 2 (numS l 2 (numS l 2 s).2).2).1, (numS l 2 (numS l 2 (numS l 2 s).2).2).2) →
      Cd.vc Try.prog C.cr_method_t0 (retQ Try.prog [(2, some 81)] fun r h' => FrR gr h h' ∧ Rdr h' gr l (methodR p l s).2 ∧ ∃ vH, r = .agg (MthV (methodR p l s).1 vH).toArray ∧ Own h' rb 132 4 vH (methodR p l s).1.code.hs.length (flatH (methodR p l s).1.code.hs)) [(0, .pointer (some ⟨g, 0, none⟩)), (1, .pointer (some ⟨rb, 0, none⟩)), (2, .pointer (some ⟨fb2, 0, none⟩)), (3, .pointer (some ⟨fb, 0, none⟩))] h3 := by
    intro h3 fb f1 f2 f3 t D3 br3 b23 bf3 x3 hlt r3 hR
    rw [C.cr_method_t0_go]
    have hb2 : fb2 < fb := hlt
    have C3 : MM h g gr rc p vp rb fb2 fb f1 f2 f3 (false, cde0) (.slice none 0 0) h3 := ⟨⟨D3, br3, b23, x3, by omega, by omega⟩, bf3, Own.nil, by omega, ⟨by omega, hlt⟩, ⟨hg, hgr⟩⟩
    clear D3 br3 b23 bf3 x3
    have kr := C3.t.kr
    simp (disch := first | omega | assumption) only [C.cr_method_gos, T.tv, ↓reduceIte, Nat.reduceEqDiff, reduceCtorEq, Nat.reduceLeDiff, Nat.reducePow, Int.reducePow, Int.reduceToNat, Nat.reduceAdd, kr]
    refine eff_call_of ?_
    simp (disch := first | omega | assumption) only [C.cr_method_gos, T.tv, ↓reduceIte, Nat.reduceEqDiff, reduceCtorEq, Nat.reduceLeDiff, Nat.reducePow, Int.reducePow, Int.reduceToNat, Nat.reduceAdd]
    refine (attributes_any p vp (cdT p l) 81 #[.pointer (some ⟨rb, 0, none⟩), .pointer (some ⟨fb, 0, none⟩)]
      (fun x hh => ∃ w, MM h g gr rc p vp rb fb2 fb f1 f2 f3 x w hh) hl (by decide +kernel) D0.v5 (fun x hh ⟨w, hx⟩ => ⟨hx.t.cr.rd, hx.t.cr.pl⟩) (fun x hh hh' ⟨w, hx⟩ f => ⟨w, hx.frR f⟩) ?_ (false, cde0) ⟨_, C3⟩ r3).mono ?_
    · rintro hh name q n x s1 ⟨w, hx⟩ hr he hq hn
      exact method1_any hl D0 name q n hx hr
    rintro _ h9 ⟨⟨w, I9⟩, r9⟩
    have hmd : methodR p l s = ((⟨f1, f2, f3, (attrsR p l (cdT p l) (numS l 2 t).1 (false, cde0) (numS l 2 t).2).1.1, (attrsR p l (cdT p l) (numS l 2 t).1 (false, cde0) (numS l 2 t).2).1.2⟩ : Mth), (attrsR p l (cdT p l) (numS l 2 t).1 (false, cde0) (numS l 2 t).2).2) := by
      simp only [Prod.mk.injEq] at hR
      unfold methodR
      simp only [hR.1, hR.2.1, hR.2.2.1, hR.2.2.2]
    generalize attrsR p l (cdT p l) (numS l 2 t).1 (false, cde0) (numS l 2 t).2 = Y at *
    rw [hmd]
    obtain ⟨aH, cH, rfl, _⟩ := I9.own.slN.2
    have hld := ld_agg T.ag_81 (Rd_block I9.bf) rfl
    simp only [MthV, CdeV, List.cons_append, List.nil_append] at hld
    simp (disch := first | omega | assumption) only [C.cr_method_gos, T.tv, ↓reduceIte, Nat.reduceEqDiff, reduceCtorEq, Nat.reduceLeDiff, Nat.reducePow, Int.reducePow, Int.reduceToNat, Nat.reduceAdd, hld]
    refine eff_storeN_zz T.zr_81 rfl rfl rfl (by simp [Value.cells, oneCell, str]) I9.t.b2 (by decide) (fun j _ _ => by simp) ?_
    intro h10 f10 b10
    have hrd : Rd h10 fb2 0 (MthV ⟨f1, f2, f3, Y.1.1, Y.1.2⟩ (.slice aH Y.1.2.hs.length cH)) := Rd_block (by simpa [Value.cells, MthV, CdeV] using b10)
    have hld10 := ld_agg T.ag_81 hrd rfl
    simp only [MthV, CdeV, List.cons_append, List.nil_append] at hld10
    have o10 := I9.o1
    have o2 := I9.o2
    simp (disch := first | omega | assumption) only [C.cr_method_gos, T.tv, ↓reduceIte, Nat.reduceEqDiff, reduceCtorEq, Nat.reduceLeDiff, Nat.reducePow, Int.reducePow, Int.reduceToNat, Nat.reduceAdd, hld10]
    refine ⟨I9.t.fr.new f10 (by omega), r9.fr f10 (by omega), .slice aH Y.1.2.hs.length cH, rfl, ?_⟩
    rw [hrb]
    exact I9.own.fr f10 (fun k hk hS => by
      subst hS
      exact Own_ne I9.own I9.t.b2 (by decide) hk)
  have r2 := H.fr (e1.trans e2) id
  have c2 := D0.frR X
  generalize h1.push (.cells #[.int .u16 0, .int .u16 0, .int .u16 0, .bool false, .int .i64 0, .int .i64 0, str [], .slice none 0 0, str []] 81) = h2 at *
  rw [← hfb2]
  clear b1 e1 e2
  have hlt2 : fb2 < h2.size := by omega
  have kr : cellAt h2 ⟨rb, 0, none⟩ = some (.pointer (some ⟨g, 0, none⟩)) := by rw [cellAt_of b12]; rfl
  have k0 := c2.rd.k0
  simp (disch := first | omega | assumption) only [C.cr_method_gos, T.tv, ↓reduceIte, Nat.reduceEqDiff, reduceCtorEq, Nat.reduceLeDiff, Nat.reducePow, Int.reducePow, Int.reduceToNat, Nat.reduceAdd, kr, k0]
  have D2 : FT h g gr rc p vp rb fb2 81 #[.int .u16 0, .int .u16 0, .int .u16 0, .bool false, .int .i64 0, .int .i64 0, str [], .slice none 0 0, str []] h2 := ⟨c2, b12, b2, X, by omega, by omega⟩
  clear b12 b2 X c2 s2
  refine ⟨?_, ?_⟩
  · refine eff_callF rfl ((index_any hl r2).mono ?_)
    rintro _ y1 ⟨f1, r1, rfl⟩
    have D1 := D2.frR f1
    clear kr k0
    have kr := D1.kr
    have k0 := D1.cr.rd.k0
    simp (disch := first | omega | assumption) only [C.cr_method_gos, T.tv, ↓reduceIte, Nat.reduceEqDiff, reduceCtorEq, Nat.reduceLeDiff, Nat.reducePow, Int.reducePow, Int.reduceToNat, Nat.reduceAdd, kr, k0]
    refine ⟨?_, ?_⟩
    · refine eff_callF rfl ((index_any hl r1).mono ?_)
      rintro _ y2 ⟨f2, r2, rfl⟩
      have D2 := D1.frR f2
      clear kr k0
      have kr := D2.kr
      have k0 := D2.cr.rd.k0
      simp (disch := first | omega | assumption) only [C.cr_method_gos, T.tv, ↓reduceIte, Nat.reduceEqDiff, reduceCtorEq, Nat.reduceLeDiff, Nat.reducePow, Int.reducePow, Int.reduceToNat, Nat.reduceAdd, kr, k0]
      refine ⟨?_, ?_⟩
      · refine eff_callF rfl ((index_any hl r2).mono ?_)
        rintro _ y3 ⟨f3, r3, rfl⟩
        have D3 := D2.frR f3
        clear kr k0
        have kr := D3.kr
        have k0 := D3.cr.rd.k0
        simp (disch := first | omega | assumption) only [C.cr_method_gos, T.tv, ↓reduceIte, Nat.reduceEqDiff, reduceCtorEq, Nat.reduceLeDiff, Nat.reducePow, Int.reducePow, Int.reduceToNat, Nat.reduceAdd, kr, k0]
        refine eff_alloc_z T.zr_81 ?_
        have ex : Ext y3 (y3.push (.cells #[.int .u16 0, .int .u16 0, .int .u16 0, .bool false, .int .i64 0, .int .i64 0, str [], .slice none 0 0, str []] 81)) := Ext.push _ _
        have ba : (y3.push (.cells #[.int .u16 0, .int .u16 0, .int .u16 0, .bool false, .int .i64 0, .int .i64 0, str [], .slice none 0 0, str []] 81))[y3.size]? = some (.cells #[.int .u16 0, .int .u16 0, .int .u16 0, .bool false, .int .i64 0, .int .i64 0, str [], .slice none 0 0, str []] 81 (0, 0)) := by simp
        have Dx := D3.frR (FrR.ext ex)
        have rx := r3.fr ex id
        have hfl : fb2 < y3.size := (Array.getElem?_eq_some_iff.1 D3.b2).1
        have hfh : h.size ≤ y3.size := D3.fr.size
        generalize y3.push (.cells #[.int .u16 0, .int .u16 0, .int .u16 0, .bool false, .int .i64 0, .int .i64 0, str [], .slice none 0 0, str []] 81) = ha at *
        generalize y3.size = fb at *
        have hfg : fb ≠ gr := by omega
        clear kr k0
        have kr := Dx.kr
        have k0 := Dx.cr.rd.k0
        simp (disch := first | omega | assumption) only [C.cr_method_gos, T.tv, ↓reduceIte, Nat.reduceEqDiff, reduceCtorEq, Nat.reduceLeDiff, Nat.reducePow, Int.reducePow, Int.reduceToNat, Nat.reduceAdd, kr, k0]
        refine eff_storeN_zz T.zr_81 rfl rfl rfl (by simp [Value.cells, oneCell, str]) ba (by decide) (fun j _ _ => by simp) ?_
        intro yz fz bz
        have o0 := Dx.fr.size
        have dz : CR yz g gr rc p vp := Dx.cr.old D0 fz Dx.fr hg (by omega)
        simp (disch := first | omega | assumption) only [C.cr_method_gos, T.tv, ↓reduceIte, Nat.reduceEqDiff, reduceCtorEq, Nat.reduceLeDiff, Nat.reducePow, Int.reducePow, Int.reduceToNat, Nat.reduceAdd]
        exact hjoin yz fb (numS l 2 s).1 (numS l 2 (numS l 2 s).2).1 (numS l 2 (numS l 2 (numS l 2 s).2).2).1 (numS l 2 (numS l 2 (numS l 2 s).2).2).2 dz (Fr_blk fz Dx.br (by omega)) (Fr_blk fz Dx.b2 (by omega)) (by simpa [Value.cells, MthV, CdeV] using bz) (Dx.fr.new fz (by omega)) (by omega) (rx.fr fz (by omega)) rfl
      · refine eff_alloc_z T.zr_81 ?_
        have ex : Ext y2 (y2.push (.cells #[.int .u16 0, .int .u16 0, .int .u16 0, .bool false, .int .i64 0, .int .i64 0, str [], .slice none 0 0, str []] 81)) := Ext.push _ _
        have ba : (y2.push (.cells #[.int .u16 0, .int .u16 0, .int .u16 0, .bool false, .int .i64 0, .int .i64 0, str [], .slice none 0 0, str []] 81))[y2.size]? = some (.cells #[.int .u16 0, .int .u16 0, .int .u16 0, .bool false, .int .i64 0, .int .i64 0, str [], .slice none 0 0, str []] 81 (0, 0)) := by simp
        have Dx := D2.frR (FrR.ext ex)
        have rx := r2.fr ex id
        have hfl : fb2 < y2.size := (Array.getElem?_eq_some_iff.1 D2.b2).1
        have hfh : h.size ≤ y2.size := D2.fr.size
        generalize y2.push (.cells #[.int .u16 0, .int .u16 0, .int .u16 0, .bool false, .int .i64 0, .int .i64 0, str [], .slice none 0 0, str []] 81) = ha at *
        generalize y2.size = fb at *
        have hfg : fb ≠ gr := by omega
        clear kr k0
        have kr := Dx.kr
        have k0 := Dx.cr.rd.k0
        simp (disch := first | omega | assumption) only [C.cr_method_gos, T.tv, ↓reduceIte, Nat.reduceEqDiff, reduceCtorEq, Nat.reduceLeDiff, Nat.reducePow, Int.reducePow, Int.reduceToNat, Nat.reduceAdd, kr, k0]
        refine eff_callF rfl ((index_any hl rx).mono ?_)
        rintro _ y4 ⟨f4, r4, rfl⟩
        have D4 := Dx.frR f4
        have b4' := Fr_blk f4 ba hfg
        clear kr k0
        have kr := D4.kr
        have k0 := D4.cr.rd.k0
        simp (disch := first | omega | assumption) only [C.cr_method_gos, T.tv, ↓reduceIte, Nat.reduceEqDiff, reduceCtorEq, Nat.reduceLeDiff, Nat.reducePow, Int.reducePow, Int.reduceToNat, Nat.reduceAdd, kr, k0]
        refine eff_storeN_zz T.zr_81 rfl rfl rfl (by simp [Value.cells, oneCell, str]) b4' (by decide) (fun j _ _ => by simp) ?_
        intro yz fz bz
        have o0 := D4.fr.size
        have dz : CR yz g gr rc p vp := D4.cr.old D0 fz D4.fr hg (by omega)
        simp (disch := first | omega | assumption) only [C.cr_method_gos, T.tv, ↓reduceIte, Nat.reduceEqDiff, reduceCtorEq, Nat.reduceLeDiff, Nat.reducePow, Int.reducePow, Int.reduceToNat, Nat.reduceAdd]
        exact hjoin yz fb (numS l 2 s).1 (numS l 2 (numS l 2 s).2).1 (numS l 2 (numS l 2 (numS l 2 s).2).2).1 (numS l 2 (numS l 2 (numS l 2 s).2).2).2 dz (Fr_blk fz D4.br (by omega)) (Fr_blk fz D4.b2 (by omega)) (by simpa [Value.cells, MthV, CdeV] using bz) (D4.fr.new fz (by omega)) (by omega) (r4.fr fz (by omega)) rfl
    · refine eff_alloc_z T.zr_81 ?_
      have ex : Ext y1 (y1.push (.cells #[.int .u16 0, .int .u16 0, .int .u16 0, .bool false, .int .i64 0, .int .i64 0, str [], .slice none 0 0, str []] 81)) := Ext.push _ _
      have ba : (y1.push (.cells #[.int .u16 0, .int .u16 0, .int .u16 0, .bool false, .int .i64 0, .int .i64 0, str [], .slice none 0 0, str []] 81))[y1.size]? = some (.cells #[.int .u16 0, .int .u16 0, .int .u16 0, .bool false, .int .i64 0, .int .i64 0, str [], .slice none 0 0, str []] 81 (0, 0)) := by simp
      have Dx := D1.frR (FrR.ext ex)
      have rx := r1.fr ex id
      have hfl : fb2 < y1.size := (Array.getElem?_eq_some_iff.1 D1.b2).1
      have hfh : h.size ≤ y1.size := D1.fr.size
      generalize y1.push (.cells #[.int .u16 0, .int .u16 0, .int .u16 0, .bool false, .int .i64 0, .int .i64 0, str [], .slice none 0 0, str []] 81) = ha at *
      generalize y1.size = fb at *
      have hfg : fb ≠ gr := by omega
      clear kr k0
      have kr := Dx.kr
      have k0 := Dx.cr.rd.k0
      simp (disch := first | omega | assumption) only [C.cr_method_gos, T.tv, ↓reduceIte, Nat.reduceEqDiff, reduceCtorEq, Nat.reduceLeDiff, Nat.reducePow, Int.reducePow, Int.reduceToNat, Nat.reduceAdd, kr, k0]
      refine eff_callF rfl ((index_any hl rx).mono ?_)
      rintro _ y5 ⟨f5, r5, rfl⟩
      have D5 := Dx.frR f5
      have b5' := Fr_blk f5 ba hfg
      clear kr k0
      have kr := D5.kr
      have k0 := D5.cr.rd.k0
      simp (disch := first | omega | assumption) only [C.cr_method_gos, T.tv, ↓reduceIte, Nat.reduceEqDiff, reduceCtorEq, Nat.reduceLeDiff, Nat.reducePow, Int.reducePow, Int.reduceToNat, Nat.reduceAdd, kr, k0]
      refine eff_callF rfl ((index_any hl r5).mono ?_)
      rintro _ y6 ⟨f6, r6, rfl⟩
      have D6 := D5.frR f6
      have b6' := Fr_blk f6 b5' hfg
      clear kr k0
      have kr := D6.kr
      have k0 := D6.cr.rd.k0
      simp (disch := first | omega | assumption) only [C.cr_method_gos, T.tv, ↓reduceIte, Nat.reduceEqDiff, reduceCtorEq, Nat.reduceLeDiff, Nat.reducePow, Int.reducePow, Int.reduceToNat, Nat.reduceAdd, kr, k0]
      refine eff_storeN_zz T.zr_81 rfl rfl rfl (by simp [Value.cells, oneCell, str]) b6' (by decide) (fun j _ _ => by simp) ?_
      intro yz fz bz
      have o0 := D6.fr.size
      have dz : CR yz g gr rc p vp := D6.cr.old D0 fz D6.fr hg (by omega)
      simp (disch := first | omega | assumption) only [C.cr_method_gos, T.tv, ↓reduceIte, Nat.reduceEqDiff, reduceCtorEq, Nat.reduceLeDiff, Nat.reducePow, Int.reducePow, Int.reduceToNat, Nat.reduceAdd]
      exact hjoin yz fb (numS l 2 s).1 (numS l 2 (numS l 2 s).2).1 (numS l 2 (numS l 2 (numS l 2 s).2).2).1 (numS l 2 (numS l 2 (numS l 2 s).2).2).2 dz (Fr_blk fz D6.br (by omega)) (Fr_blk fz D6.b2 (by omega)) (by simpa [Value.cells, MthV, CdeV] using bz) (D6.fr.new fz (by omega)) (by omega) (r6.fr fz (by omega)) rfl
  · refine eff_alloc_z T.zr_81 ?_
    have ex : Ext h2 (h2.push (.cells #[.int .u16 0, .int .u16 0, .int .u16 0, .bool false, .int .i64 0, .int .i64 0, str [], .slice none 0 0, str []] 81)) := Ext.push _ _
    have ba : (h2.push (.cells #[.int .u16 0, .int .u16 0, .int .u16 0, .bool false, .int .i64 0, .int .i64 0, str [], .slice none 0 0, str []] 81))[h2.size]? = some (.cells #[.int .u16 0, .int .u16 0, .int .u16 0, .bool false, .int .i64 0, .int .i64 0, str [], .slice none 0 0, str []] 81 (0, 0)) := by simp
    have Dx := D2.frR (FrR.ext ex)
    have rx := r2.fr ex id
    have hfl : fb2 < h2.size := (Array.getElem?_eq_some_iff.1 D2.b2).1
    have hfh : h.size ≤ h2.size := D2.fr.size
    generalize h2.push (.cells #[.int .u16 0, .int .u16 0, .int .u16 0, .bool false, .int .i64 0, .int .i64 0, str [], .slice none 0 0, str []] 81) = ha at *
    generalize h2.size = fb at *
    have hfg : fb ≠ gr := by omega
    clear kr k0
    have kr := Dx.kr
    have k0 := Dx.cr.rd.k0
    simp (disch := first | omega | assumption) only [C.cr_method_gos, T.tv, ↓reduceIte, Nat.reduceEqDiff, reduceCtorEq, Nat.reduceLeDiff, Nat.reducePow, Int.reducePow, Int.reduceToNat, Nat.reduceAdd, kr, k0]
    refine eff_callF rfl ((index_any hl rx).mono ?_)
    rintro _ y7 ⟨f7, r7, rfl⟩
    have D7 := Dx.frR f7
    have b7' := Fr_blk f7 ba hfg
    clear kr k0
    have kr := D7.kr
    have k0 := D7.cr.rd.k0
    simp (disch := first | omega | assumption) only [C.cr_method_gos, T.tv, ↓reduceIte, Nat.reduceEqDiff, reduceCtorEq, Nat.reduceLeDiff, Nat.reducePow, Int.reducePow, Int.reduceToNat, Nat.reduceAdd, kr, k0]
    refine eff_callF rfl ((index_any hl r7).mono ?_)
    rintro _ y8 ⟨f8, r8, rfl⟩
    have D8 := D7.frR f8
    have b8' := Fr_blk f8 b7' hfg
    clear kr k0
    have kr := D8.kr
    have k0 := D8.cr.rd.k0
    simp (disch := first | omega | assumption) only [C.cr_method_gos, T.tv, ↓reduceIte, Nat.reduceEqDiff, reduceCtorEq, Nat.reduceLeDiff, Nat.reducePow, Int.reducePow, Int.reduceToNat, Nat.reduceAdd, kr, k0]
    refine eff_callF rfl ((index_any hl r8).mono ?_)
    rintro _ y9 ⟨f9, r9, rfl⟩
    have D9 := D8.frR f9
    have b9' := Fr_blk f9 b8' hfg
    clear kr k0
    have kr := D9.kr
    have k0 := D9.cr.rd.k0
    simp (disch := first | omega | assumption) only [C.cr_method_gos, T.tv, ↓reduceIte, Nat.reduceEqDiff, reduceCtorEq, Nat.reduceLeDiff, Nat.reducePow, Int.reducePow, Int.reduceToNat, Nat.reduceAdd, kr, k0]
    refine eff_storeN_zz T.zr_81 rfl rfl rfl (by simp [Value.cells, oneCell, str]) b9' (by decide) (fun j _ _ => by simp) ?_
    intro yz fz bz
    have o0 := D9.fr.size
    have dz : CR yz g gr rc p vp := D9.cr.old D0 fz D9.fr hg (by omega)
    simp (disch := first | omega | assumption) only [C.cr_method_gos, T.tv, ↓reduceIte, Nat.reduceEqDiff, reduceCtorEq, Nat.reduceLeDiff, Nat.reducePow, Int.reducePow, Int.reduceToNat, Nat.reduceAdd]
    exact hjoin yz fb (numS l 2 s).1 (numS l 2 (numS l 2 s).2).1 (numS l 2 (numS l 2 (numS l 2 s).2).2).1 (numS l 2 (numS l 2 (numS l 2 s).2).2).2 dz (Fr_blk fz D9.br (by omega)) (Fr_blk fz D9.b2 (by omega)) (by simpa [Value.cells, MthV, CdeV] using bz) (D9.fr.new fz (by omega)) (by omega) (r9.fr fz (by omega)) rfl
end
end Go.Proofs.Ytohkbpnblkkdgaa

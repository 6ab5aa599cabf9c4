/- The steps of a space, plainly and by the program. No condition. -/
import Derived.Test.YtidkokdkldfglaaUV
namespace Go.Proofs.Ytidkokdkldfglaa
open Go.Vc
set_option maxRecDepth 100000
set_option linter.unusedSimpArgs false
set_option linter.unusedVariables false

/-! ### Plainly -/
def inR (k : Int) : Prop := 0 ≤ k ∧ k < 16
instance {k : Int} : Decidable (inR k) := by unfold inR; infer_instance
def rtN (a : AS) (k : Int) : Nat := a.roots.getD k.toNat 0
def thN (a : AS) (k : Int) : List Nat × List Nat := a.things.getD (rtN a k) ([], [])
/-- A place with a thing in it. -/
def plc (a : AS) (k : Int) : Prop := inR k ∧ rtN a k ≠ 0
instance {a : AS} {k : Int} : Decidable (plc a k) := by unfold plc; infer_instance
open Classical in
noncomputable def aMake (a : AS) (k r w : Int) : AS × Int :=
  if ¬ inR k ∨ r < 0 ∨ w < 0 then (a, 7) else if (a.limit : Int) < r ∨ (a.limit : Int) < w then (a, 28)
  else if Fits a (2 + r.toNat + w.toNat) then ({ grow a r.toNat w.toNat with roots := a.roots.set k.toNat a.things.length }, 0) else (a, 28)
def aCopy (a : AS) (t f : Int) : AS × Int := if inR t ∧ inR f then ({ a with roots := a.roots.set t.toNat (rtN a f) }, 0) else (a, 7)
def aDrop (a : AS) (k : Int) : AS × Int := if inR k then ({ a with roots := a.roots.set k.toNat 0 }, 0) else (a, 7)
def aPut (a : AS) (k i f : Int) : AS × Int :=
  if plc a k ∧ inR f ∧ 0 ≤ i ∧ i < (thN a k).1.length then ({ a with things := a.things.set (rtN a k) ((thN a k).1.set i.toNat (rtN a f), (thN a k).2) }, 0) else (a, 7)
def aGet (a : AS) (t k i : Int) : AS × Int :=
  if plc a k ∧ inR t ∧ 0 ≤ i ∧ i < (thN a k).1.length then ({ a with roots := a.roots.set t.toNat ((thN a k).1.getD i.toNat 0) }, 0) else (a, 7)
def aSet (a : AS) (k i : Int) (x : Nat) : AS × Int :=
  if plc a k ∧ 0 ≤ i ∧ i < (thN a k).2.length then ({ a with things := a.things.set (rtN a k) ((thN a k).1, (thN a k).2.set i.toNat x) }, 0) else (a, 7)
def aWord (a : AS) (k i : Int) : Nat × Int := if plc a k ∧ 0 ≤ i ∧ i < (thN a k).2.length then ((thN a k).2.getD i.toNat 0, 0) else (0, 7)
def aSame (a : AS) (x y : Int) : Bool × Int := if inR x ∧ inR y then (decide (rtN a x = rtN a y), 0) else (false, 7)

/-! ### By the program -/
/-- A space that stands for things. -/
structure Gd (base : Nat) (h : Heap) (p : Ph) (s : St) (a : AS) : Prop where
  r : Rep base h p s
  i : Inv s
  m : Sim s a
  ro : s.room ≤ 100000
  b : base ≤ h.size
/-- Behind a step. -/
def Nx (base : Nat) (h h' : Heap) (p : Ph) (s : St) (a' : AS) : Prop := ∃ p' s', Stp base h h' p p' s s' ∧ Pk p p' ∧ Inv s' ∧ Sim s' a' ∧ s'.room = s.room
theorem Gd.nx {base : Nat} {h h' : Heap} {p p' : Ph} {s s' : St} {a a' : AS} (G : Gd base h p s a) (S : Stp base h h' p p' s s') (k : Pk p p') (I : Inv s') (M : Sim s' a') (e : s'.room = s.room) : Nx base h h' p s a' := ⟨p', s', S, k, I, M, e⟩
theorem Gd.stay {base : Nat} {h : Heap} {p : Ph} {s : St} {a : AS} (G : Gd base h p s a) : Nx base h h p s a := ⟨p, s, Stp.refl G.r, Pk.refl, G.i, G.m, rfl⟩
section
variable {base : Nat} {h : Heap} {p : Ph} {s : St} {a : AS}
theorem Gd.root (G : Gd base h p s a) {k : Nat} (hk : k < 16) {R : Nat → Nat → Prop} (HR : SimR s a R) : ∃ r, s.roots[k]? = some r ∧ R r (rtN a (k : Int)) ∧ valid s r ∧ r < 4294967296 ∧ (r = 0 ↔ rtN a (k : Int) = 0) := by
  have hl : s.roots[k]? = some (s.roots[k]'(by rw [G.i.rt]; exact hk)) := by simp
  obtain ⟨t, h1, h2⟩ := HR.ro.get hl
  have e : rtN a (k : Int) = t := by unfold rtN; rw [Int.toNat_natCast, List.getD_eq_getElem?_getD, h1]; rfl
  have v := HR.valid G.i h2
  exact ⟨_, hl, by rw [e]; exact h2, v, G.i.valid_lt v, by rw [e]; exact HR.zz _ _ h2⟩
theorem place_any (G : Gd base h p s a) {k : Int} : HCalls Try.prog 35 #[ptr p.S 0, .int .i64 k] h fun v h' => h' = h ∧ v = .bool (decide (plc a k)) := by
  refine C.s_place_calls (args := [ptr p.S 0, .int .i64 k]) rfl ?_
  obtain ⟨R, HR⟩ := G.m
  by_cases c1 : 0 ≤ k
  · by_cases c2 : k < 16
    · obtain ⟨n, rfl⟩ : ∃ n : Nat, k = n := ⟨k.toNat, by omega⟩
      obtain ⟨r, h1, h2, h3, h4, h5⟩ := G.root (k := n) (by omega) HR
      have b2 : (n : Int) < ((16 : Nat) : Int) := by omega
      have l := G.r.sk h1
      by_cases c3 : r = 0
      · have e : decide (plc a (n : Int)) = false := decide_eq_false fun h => h.2 (h5.1 c3)
        have c3' : (r : Int) = 0 := by omega
        rw [e]
        simp (disch := first | omega | assumption) only [C.s_place_gos, T.tv, ↓reduceIte, Nat.reduceEqDiff, reduceCtorEq, Nat.reduceLeDiff, Nat.reducePow, Int.reducePow, Int.reduceToNat, Nat.reduceAdd, c1, c2, ia_rt, b2, l, refV, c3', ne_eq]
      · have e : decide (plc a (n : Int)) = true := decide_eq_true ⟨⟨c1, c2⟩, fun h => c3 (h5.2 h)⟩
        have c3' : ¬ (r : Int) = 0 := by omega
        rw [e]
        simp (disch := first | omega | assumption) only [C.s_place_gos, T.tv, ↓reduceIte, Nat.reduceEqDiff, reduceCtorEq, Nat.reduceLeDiff, Nat.reducePow, Int.reducePow, Int.reduceToNat, Nat.reduceAdd, c1, c2, ia_rt, b2, l, refV, c3', ne_eq]
    · have e : decide (plc a k) = false := decide_eq_false fun h => c2 h.1.2
      rw [e]
      simp (disch := first | omega | assumption) only [C.s_place_gos, T.tv, ↓reduceIte, Nat.reduceEqDiff, reduceCtorEq, Nat.reduceLeDiff, Nat.reducePow, Int.reducePow, Int.reduceToNat, Nat.reduceAdd, c1, c2]
  · have e : decide (plc a k) = false := decide_eq_false fun h => c1 h.1.1
    rw [e]
    simp (disch := first | omega | assumption) only [C.s_place_gos, T.tv, ↓reduceIte, Nat.reduceEqDiff, reduceCtorEq, Nat.reduceLeDiff, Nat.reducePow, Int.reducePow, Int.reduceToNat, Nat.reduceAdd, c1]
theorem Gd.setRoot (G : Gd base h p s a) {R : Nat → Nat → Prop} (HR : SimR s a R) {k : Nat} (hk : k < 16) {r t : Nat} (hr : R r t) : Nx base h (setAt h ⟨p.S, 1 + k, none⟩ (refV r)) p s { a with roots := a.roots.set k t } :=
  ⟨p, _, G.r.root (by rw [G.i.rt]; exact hk) r, Pk.refl, G.i.root (HR.valid G.i hr) k, ⟨R, HR.root hr k⟩, rfl⟩
theorem sDrop_any (G : Gd base h p s a) {k : Int} : HCalls Try.prog 20 #[ptr p.S 0, .int .i64 k] h fun v h' => Nx base h h' p s (aDrop a k).1 ∧ v = .int .i64 (aDrop a k).2 := by
  refine C.s_Drop_calls (args := [ptr p.S 0, .int .i64 k]) rfl ?_
  obtain ⟨R, HR⟩ := G.m
  by_cases c1 : k < 0
  · have e : aDrop a k = (a, 7) := by unfold aDrop; rw [if_neg (fun h => by have := h.1; omega)]
    rw [e]
    simp (disch := first | omega | assumption) only [C.s_Drop_gos, T.tv, ↓reduceIte, Nat.reduceEqDiff, reduceCtorEq, Nat.reduceLeDiff, Nat.reducePow, Int.reducePow, Int.reduceToNat, Nat.reduceAdd, c1]
    first | exact G.stay | exact ⟨G.stay, rfl⟩
  · by_cases c2 : 16 ≤ k
    · have e : aDrop a k = (a, 7) := by unfold aDrop; rw [if_neg (fun h => by have := h.2; omega)]
      rw [e]
      simp (disch := first | omega | assumption) only [C.s_Drop_gos, T.tv, ↓reduceIte, Nat.reduceEqDiff, reduceCtorEq, Nat.reduceLeDiff, Nat.reducePow, Int.reducePow, Int.reduceToNat, Nat.reduceAdd, c1, c2]
      first | exact G.stay | exact ⟨G.stay, rfl⟩
    · obtain ⟨n, rfl⟩ : ∃ n : Nat, k = n := ⟨k.toNat, by omega⟩
      have e : aDrop a (n : Int) = ({ a with roots := a.roots.set n 0 }, 0) := by unfold aDrop; rw [if_pos ⟨by omega, by omega⟩]; rfl
      rw [e]
      obtain ⟨r, h1, h2, h3, h4, h5⟩ := G.root (k := n) (by omega) HR
      have b1 : (0 : Int) ≤ (n : Int) := by omega
      have b2 : (n : Int) < ((16 : Nat) : Int) := by omega
      simp (disch := first | omega | assumption) only [C.s_Drop_gos, T.tv, ↓reduceIte, Nat.reduceEqDiff, reduceCtorEq, Nat.reduceLeDiff, Nat.reducePow, Int.reducePow, Int.reduceToNat, Nat.reduceAdd, c1, c2, ia_rt, b1, b2]
      refine eff_store1_z T.zr_51 rfl rfl rfl rfl rfl (G.r.sk h1) (G.r.sz _) ?_
      simp (disch := first | omega | assumption) only [C.s_Drop_gos, T.tv, ↓reduceIte, Nat.reduceEqDiff, reduceCtorEq, Nat.reduceLeDiff, Nat.reducePow, Int.reducePow, Int.reduceToNat, Nat.reduceAdd]
      have N := G.setRoot HR (k := n) (by omega) HR.z
      first | exact N | exact ⟨N, rfl⟩
theorem sCopy_any (G : Gd base h p s a) {t f : Int} : HCalls Try.prog 18 #[ptr p.S 0, .int .i64 t, .int .i64 f] h fun v h' => Nx base h h' p s (aCopy a t f).1 ∧ v = .int .i64 (aCopy a t f).2 := by
  refine C.s_Copy_calls (args := [ptr p.S 0, .int .i64 t, .int .i64 f]) rfl ?_
  obtain ⟨R, HR⟩ := G.m
  by_cases c0 : inR t ∧ inR f
  · obtain ⟨⟨t1, t2⟩, f1, f2⟩ := c0
    obtain ⟨n, rfl⟩ : ∃ n : Nat, t = n := ⟨t.toNat, by omega⟩
    obtain ⟨m, rfl⟩ : ∃ m : Nat, f = m := ⟨f.toNat, by omega⟩
    have e : aCopy a (n : Int) (m : Int) = ({ a with roots := a.roots.set n (rtN a (m : Int)) }, 0) := by unfold aCopy; rw [if_pos ⟨⟨t1, t2⟩, f1, f2⟩]; rfl
    rw [e]
    obtain ⟨r, h1, h2, h3, h4, h5⟩ := G.root (k := m) (by omega) HR
    obtain ⟨q, q1, _⟩ := G.root (k := n) (by omega) HR
    have c1 : ¬ (n : Int) < 0 := by omega
    have c2 : ¬ (16 : Int) ≤ (n : Int) := by omega
    have c3 : ¬ (m : Int) < 0 := by omega
    have c4 : ¬ (16 : Int) ≤ (m : Int) := by omega
    have b1 : (n : Int) < ((16 : Nat) : Int) := by omega
    have b2 : (m : Int) < ((16 : Nat) : Int) := by omega
    have l := G.r.sk h1
    simp (disch := first | omega | assumption) only [C.s_Copy_gos, T.tv, ↓reduceIte, Nat.reduceEqDiff, reduceCtorEq, Nat.reduceLeDiff, Nat.reducePow, Int.reducePow, Int.reduceToNat, Nat.reduceAdd, c1, c2, c3, c4, ia_rt, t1, f1, b1, b2, l]
    refine eff_store1_z T.zr_51 rfl rfl rfl rfl rfl (G.r.sk q1) (G.r.sz _) ?_
    simp (disch := first | omega | assumption) only [C.s_Copy_gos, T.tv, ↓reduceIte, Nat.reduceEqDiff, reduceCtorEq, Nat.reduceLeDiff, Nat.reducePow, Int.reducePow, Int.reduceToNat, Nat.reduceAdd]
    have N := G.setRoot HR (k := n) (by omega) h2
    first | exact N | exact ⟨N, rfl⟩
  · have e : aCopy a t f = (a, 7) := by unfold aCopy; rw [if_neg c0]
    rw [e]
    unfold inR at c0
    by_cases c1 : t < 0
    · simp (disch := first | omega | assumption) only [C.s_Copy_gos, T.tv, ↓reduceIte, Nat.reduceEqDiff, reduceCtorEq, Nat.reduceLeDiff, Nat.reducePow, Int.reducePow, Int.reduceToNat, Nat.reduceAdd, c1]
      first | exact G.stay | exact ⟨G.stay, rfl⟩
    by_cases c2 : 16 ≤ t
    · simp (disch := first | omega | assumption) only [C.s_Copy_gos, T.tv, ↓reduceIte, Nat.reduceEqDiff, reduceCtorEq, Nat.reduceLeDiff, Nat.reducePow, Int.reducePow, Int.reduceToNat, Nat.reduceAdd, c1, c2]
      first | exact G.stay | exact ⟨G.stay, rfl⟩
    by_cases c3 : f < 0
    · simp (disch := first | omega | assumption) only [C.s_Copy_gos, T.tv, ↓reduceIte, Nat.reduceEqDiff, reduceCtorEq, Nat.reduceLeDiff, Nat.reducePow, Int.reducePow, Int.reduceToNat, Nat.reduceAdd, c1, c2, c3]
      first | exact G.stay | exact ⟨G.stay, rfl⟩
    have c4 : 16 ≤ f := by omega
    simp (disch := first | omega | assumption) only [C.s_Copy_gos, T.tv, ↓reduceIte, Nat.reduceEqDiff, reduceCtorEq, Nat.reduceLeDiff, Nat.reducePow, Int.reducePow, Int.reduceToNat, Nat.reduceAdd, c1, c2, c3, c4]
    first | exact G.stay | exact ⟨G.stay, rfl⟩
theorem sSame_any (G : Gd base h p s a) {t f : Int} : HCalls Try.prog 13 #[ptr p.S 0, .int .i64 t, .int .i64 f] h fun v h' => h' = h ∧ v = .tuple #[.bool (aSame a t f).1, .int .i64 (aSame a t f).2] := by
  refine C.s_Same_calls (args := [ptr p.S 0, .int .i64 t, .int .i64 f]) rfl ?_
  obtain ⟨R, HR⟩ := G.m
  by_cases c0 : inR t ∧ inR f
  · obtain ⟨⟨t1, t2⟩, f1, f2⟩ := c0
    obtain ⟨n, rfl⟩ : ∃ n : Nat, t = n := ⟨t.toNat, by omega⟩
    obtain ⟨m, rfl⟩ : ∃ m : Nat, f = m := ⟨f.toNat, by omega⟩
    have e : aSame a (n : Int) (m : Int) = (decide (rtN a (n : Int) = rtN a (m : Int)), 0) := by unfold aSame; rw [if_pos ⟨⟨t1, t2⟩, f1, f2⟩]
    rw [e]
    obtain ⟨r, h1, h2, h3, h4, h5⟩ := G.root (k := m) (by omega) HR
    obtain ⟨q, q1, q2, _⟩ := G.root (k := n) (by omega) HR
    have c1 : ¬ (n : Int) < 0 := by omega
    have c2 : ¬ (16 : Int) ≤ (n : Int) := by omega
    have c3 : ¬ (m : Int) < 0 := by omega
    have c4 : ¬ (16 : Int) ≤ (m : Int) := by omega
    have b1 : (n : Int) < ((16 : Nat) : Int) := by omega
    have b2 : (m : Int) < ((16 : Nat) : Int) := by omega
    have l := G.r.sk h1
    have l2 := G.r.sk q1
    have d : decide ((q : Int) = (r : Int)) = decide (rtN a (n : Int) = rtN a (m : Int)) := by
      refine decide_eq_decide.2 ⟨fun h => ?_, fun h => ?_⟩
      · have : q = r := by omega
        subst this
        exact HR.fn _ _ _ q2 h2
      · rw [h] at q2
        have := HR.inj _ _ _ q2 h2
        omega
    simp (disch := first | omega | assumption) only [C.s_Same_gos, T.tv, ↓reduceIte, Nat.reduceEqDiff, reduceCtorEq, Nat.reduceLeDiff, Nat.reducePow, Int.reducePow, Int.reduceToNat, Nat.reduceAdd, c1, c2, c3, c4, ia_rt, t1, f1, b1, b2, l, l2, refV, d]
  · have e : aSame a t f = (false, 7) := by unfold aSame; rw [if_neg c0]
    rw [e]
    unfold inR at c0
    by_cases c1 : t < 0
    · simp (disch := first | omega | assumption) only [C.s_Same_gos, T.tv, ↓reduceIte, Nat.reduceEqDiff, reduceCtorEq, Nat.reduceLeDiff, Nat.reducePow, Int.reducePow, Int.reduceToNat, Nat.reduceAdd, c1]
    by_cases c2 : 16 ≤ t
    · simp (disch := first | omega | assumption) only [C.s_Same_gos, T.tv, ↓reduceIte, Nat.reduceEqDiff, reduceCtorEq, Nat.reduceLeDiff, Nat.reducePow, Int.reducePow, Int.reduceToNat, Nat.reduceAdd, c1, c2]
    by_cases c3 : f < 0
    · simp (disch := first | omega | assumption) only [C.s_Same_gos, T.tv, ↓reduceIte, Nat.reduceEqDiff, reduceCtorEq, Nat.reduceLeDiff, Nat.reducePow, Int.reducePow, Int.reduceToNat, Nat.reduceAdd, c1, c2, c3]
    have c4 : 16 ≤ f := by omega
    simp (disch := first | omega | assumption) only [C.s_Same_gos, T.tv, ↓reduceIte, Nat.reduceEqDiff, reduceCtorEq, Nat.reduceLeDiff, Nat.reducePow, Int.reducePow, Int.reduceToNat, Nat.reduceAdd, c1, c2, c3, c4]
/-- What is at a place with a thing in it. -/
theorem Gd.thing (G : Gd base h p s a) {R : Nat → Nat → Prop} (HR : SimR s a R) {k : Int} (hp : plc a k) : ∃ (n r : Nat) (c : CP) (g g' : Nat), k = n ∧ n < 16 ∧ s.roots[n]? = some r ∧ R r (rtN a k) ∧ r ≠ 0 ∧ r < 4294967296 ∧ look s r = some c ∧ c.rg = some g ∧ c.wg = some g' ∧
    s.RS g = some (rl s c) ∧ s.WS g' = some (wl s c) ∧ (rl s c).length = c.rn ∧ (wl s c).length = c.wn ∧ a.things[rtN a k]? = some (thN a k) ∧ wl s c = (thN a k).2 ∧ Rel2 R (rl s c) (thN a k).1 := by
  obtain ⟨⟨p1, p2⟩, p3⟩ := hp
  obtain ⟨n, rfl⟩ : ∃ n : Nat, k = n := ⟨k.toNat, by omega⟩
  obtain ⟨r, h1, h2, h3, h4, h5⟩ := G.root (k := n) (by omega) HR
  have r0 : r ≠ 0 := fun e => p3 (h5.1 e)
  obtain ⟨v, c, th, b1, b2, b3, b4⟩ := HR.ok _ _ h2 r0
  have hh := G.i.ha r c r0 v b1
  obtain ⟨⟨g, l, e1, e2, e3, e4⟩, ⟨g', l', f1, f2, f3⟩⟩ := hh
  have et : thN a (n : Int) = th := by unfold thN; rw [List.getD_eq_getElem?_getD, b2]; rfl
  refine ⟨n, r, c, g, g', rfl, by omega, h1, h2, r0, h4, b1, e1, f1, by rw [rl_of e1 e2]; exact e2, by rw [wl_of f1 f2]; exact f2, by rw [rl_of e1 e2]; exact e3, by rw [wl_of f1 f2]; exact f3, by rw [et]; exact b2, by rw [et]; exact b3, by rw [et]; exact b4⟩
theorem sWord_any (G : Gd base h p s a) {k i : Int} : HCalls Try.prog 12 #[ptr p.S 0, .int .i64 k, .int .i64 i] h fun v h' => h' = h ∧ v = .tuple #[wordV (aWord a k i).1, .int .i64 (aWord a k i).2] := by
  refine C.s_Word_calls (args := [ptr p.S 0, .int .i64 k, .int .i64 i]) rfl ?_
  obtain ⟨R, HR⟩ := G.m
  have PL := place_any G (k := k)
  by_cases c0 : plc a k
  · rw [decide_eq_true c0] at PL
    simp (disch := first | omega | assumption) only [C.s_Word_gos, T.tv, ↓reduceIte, Nat.reduceEqDiff, reduceCtorEq, Nat.reduceLeDiff, Nat.reducePow, Int.reducePow, Int.reduceToNat, Nat.reduceAdd]
    refine eff_callF rfl (PL.mono ?_)
    rintro v1 h1 ⟨rfl, rfl⟩
    by_cases c1 : i < 0
    · have e : aWord a k i = (0, 7) := by unfold aWord; rw [if_neg (fun h => by have := h.2.1; omega)]
      rw [e]
      simp (disch := first | omega | assumption) only [C.s_Word_gos, T.tv, ↓reduceIte, Nat.reduceEqDiff, reduceCtorEq, Nat.reduceLeDiff, Nat.reducePow, Int.reducePow, Int.reduceToNat, Nat.reduceAdd, c1, wordV]
      first | done | rfl
    · obtain ⟨n, r, c, g, g', rfl, n16, x1, x2, x3, x4, x5, x6, x7, x8, x9, x10, x11, x12, x13, x14⟩ := G.thing HR c0
      have b1 : (0 : Int) ≤ (n : Int) := by omega
      have b2 : (n : Int) < ((16 : Nat) : Int) := by omega
      have l0 := G.r.s0
      have l := G.r.sk x1
      simp (disch := first | omega | assumption) only [C.s_Word_gos, T.tv, ↓reduceIte, Nat.reduceEqDiff, reduceCtorEq, Nat.reduceLeDiff, Nat.reducePow, Int.reducePow, Int.reduceToNat, Nat.reduceAdd, c1, l0, ia_rt, b1, b2, l]
      refine eff_callF rfl ((Words_any G.r x5 x4).mono ?_)
      rintro v1 h1 ⟨rfl, rfl⟩
      by_cases c2 : (c.wn : Int) ≤ i
      · have e : aWord a (n : Int) i = (0, 7) := by unfold aWord; rw [if_neg (fun h => by have := h.2.2; rw [← x13, x11] at this; omega)]
        rw [e]
        simp (disch := first | omega | assumption) only [C.s_Word_gos, T.tv, ↓reduceIte, Nat.reduceEqDiff, reduceCtorEq, Nat.reduceLeDiff, Nat.reducePow, Int.reducePow, Int.reduceToNat, Nat.reduceAdd, c2, wordV]
        first | done | rfl
      · obtain ⟨j, rfl⟩ : ∃ j : Nat, i = j := ⟨i.toNat, by omega⟩
        have hj : (wl s c)[j]? = some ((wl s c)[j]'(by omega)) := by simp
        generalize hy : (wl s c)[j]'(by omega) = y at hj
        have e : aWord a (n : Int) (j : Int) = (y, 0) := by
          unfold aWord
          rw [if_pos ⟨c0, by omega, by rw [← x13, x11]; omega⟩, ← x13, List.getD_eq_getElem?_getD, Int.toNat_natCast, hj]; rfl
        rw [e]
        simp (disch := first | omega | assumption) only [C.s_Word_gos, T.tv, ↓reduceIte, Nat.reduceEqDiff, reduceCtorEq, Nat.reduceLeDiff, Nat.reducePow, Int.reducePow, Int.reduceToNat, Nat.reduceAdd, c2, l0, ia_rt, b1, b2, l]
        refine eff_callF rfl ((Word_any G.r x5 x4 x7 x9 x11 hj).mono ?_)
        rintro v1 h1 ⟨rfl, rfl⟩
        simp (disch := first | omega | assumption) only [C.s_Word_gos, T.tv, ↓reduceIte, Nat.reduceEqDiff, reduceCtorEq, Nat.reduceLeDiff, Nat.reducePow, Int.reducePow, Int.reduceToNat, Nat.reduceAdd]
  · rw [decide_eq_false c0] at PL
    have e : aWord a k i = (0, 7) := by unfold aWord; rw [if_neg (fun h => c0 h.1)]
    rw [e]
    simp (disch := first | omega | assumption) only [C.s_Word_gos, T.tv, ↓reduceIte, Nat.reduceEqDiff, reduceCtorEq, Nat.reduceLeDiff, Nat.reducePow, Int.reducePow, Int.reduceToNat, Nat.reduceAdd]
    refine eff_callF rfl (PL.mono ?_)
    rintro v1 h1 ⟨rfl, rfl⟩
    simp (disch := first | omega | assumption) only [C.s_Word_gos, T.tv, ↓reduceIte, Nat.reduceEqDiff, reduceCtorEq, Nat.reduceLeDiff, Nat.reducePow, Int.reducePow, Int.reduceToNat, Nat.reduceAdd, wordV]
    first | done | rfl
end
end Go.Proofs.Ytidkokdkldfglaa

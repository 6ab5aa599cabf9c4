/- A reference turned while the young are looked at, by the program; each of those that are held. No condition. -/
import Derived.Test.YtidkokdkldfglaaUF
import Derived.Test.YtidkokdkldfglaaUJ
namespace Go.Proofs.Ytidkokdkldfglaa
open Go.Vc
set_option maxRecDepth 100000
set_option linter.unusedSimpArgs false
set_option linter.unusedVariables false

def Pk (p p' : Ph) : Prop := p'.S = p.S ∧ p'.H = p.H
theorem Pk.refl {p : Ph} : Pk p p := ⟨rfl, rfl⟩
theorem Pk.trans {p q r : Ph} (a : Pk p q) (b : Pk q r) : Pk p r := ⟨b.1.trans a.1, b.2.trans a.2⟩
/-- The address of a place. -/
def locB (p : Ph) : Loc → Nat
  | .root _ => p.S
  | .ref g _ => g
def locO : Loc → Nat
  | .root k => 1 + k
  | .ref _ i => i
section
variable {base : Nat} {h : Heap} {p : Ph} {s : St}
theorem Rep.locc (R : Rep base h p s) {loc : Loc} {x : Nat} (hl : getL s loc = some x) : cellAt h ⟨locB p loc, locO loc, none⟩ = some (refV x) ∧ frozenAt h ⟨locB p loc, locO loc, none⟩ = false := by
  cases loc with
  | root k => exact ⟨R.sk hl, R.sz _⟩
  | ref g i =>
    simp only [getL] at hl
    cases hg : s.RS g with
    | none => rw [hg] at hl; cases hl
    | some l => rw [hg] at hl; exact R.rc hg hl
theorem Rep.locs (R : Rep base h p s) {loc : Loc} {x : Nat} (hl : getL s loc = some x) (y : Nat) : Stp base h (setAt h ⟨locB p loc, locO loc, none⟩ (refV y)) p p s (setL s loc y) := by
  cases loc with
  | root k => exact R.root (List.getElem?_eq_some_iff.1 hl).1 y
  | ref g i =>
    simp only [getL] at hl
    cases hg : s.RS g with
    | none => rw [hg] at hl; cases hl
    | some l =>
      rw [hg] at hl
      have := R.ref hg (List.getElem?_eq_some_iff.1 hl).1 y
      have e : setL s (.ref g i) y = { s with RS := upd s.RS g (l.set i y) } := by simp only [setL, setR, hg, Option.getD_some]
      rw [e]
      exact this
/-- A variable of a closure: the heap's place. -/
structure Bx (h : Heap) (p : Ph) (s : St) (b : Nat) : Prop where
  bb : h[b]? = some (.cells #[ptr p.H 0] 49 (0, 0))
  n : ¬ foot p s b
theorem Bx.get {b : Nat} (B : Bx h p s b) : cellAt h ⟨b, 0, none⟩ = some (ptr p.H 0) := by rw [cellAt_of B.bb]; rfl
theorem Bx.lt {b : Nat} (B : Bx h p s b) : b < h.size := (Array.getElem?_eq_some_iff.1 B.bb).1
theorem Bx.stp {b : Nat} {h' : Heap} {p' : Ph} {s' : St} (B : Bx h p s b) (S : Stp base h h' p p' s s') (k : Pk p p') : Bx h' p' s' b := by
  refine ⟨?_, fun hf => ?_⟩
  · rw [S.fr.same b B.lt B.n, k.2]; exact B.bb
  · rcases S.nw b hf with h1 | h1
    · exact B.n h1
    · have := B.lt; omega
theorem Bx.ext {b : Nat} {h' : Heap} (B : Bx h p s b) (E : Ext h h') : Bx h' p s b := ⟨by rw [E.same b B.lt id]; exact B.bb, B.n⟩
theorem Bx.new (R : Rep base h p s) : Bx (h.push (.cells #[ptr p.H 0] 49 (0, 0))) p s h.size := ⟨by simp, fun hf => by have := (R.lt hf).2; omega⟩
set_option maxHeartbeats 1000000 in
theorem turn_any (R : Rep base h p s) {b : Nat} (B : Bx h p s b) {loc : Loc} {x : Nat} (hbs : base ≤ h.size) (hl : getL s loc = some x) (h32 : x < 4294967296) (hv : 2147483648 ≤ x → ∃ c, s.young[x - 2147483648]? = some c ∧ c.to < 2147483648)
    (ho : s.old.length ≤ 100000) : HCalls Try.prog 45 #[ptr (locB p loc) (locO loc), ptr b 0] h fun v h' => ∃ O' oc', Stp base h h' p { p with O := O', oc := oc' } s (turnP s loc) := by
  refine C.h_Minor1_calls (args := [ptr (locB p loc) (locO loc), ptr b 0]) rfl ?_
  have lc := (R.locc hl).1
  have e1 := and31 h32
  by_cases c1 : x < 2147483648
  · rw [if_pos c1] at e1
    simp (disch := first | omega | assumption) only [C.h_Minor1_gos, T.tv, ↓reduceIte, Nat.reduceEqDiff, reduceCtorEq, Nat.reduceLeDiff, Nat.reducePow, Int.reducePow, Int.reduceToNat, Nat.reduceAdd, lc, refV, e1]
    refine ⟨p.O, p.oc, ?_⟩
    unfold turnP; rw [hl]; simp only; rw [if_pos c1]
    exact Stp.refl R
  · rw [if_neg c1] at e1
    obtain ⟨c, hc, hct⟩ := hv (by omega)
    have lk : look s x = some c := by unfold look; rw [if_neg c1]; exact hc
    have bx := B.get
    have a5 := R.a5 lk
    simp (disch := first | omega | assumption) only [C.h_Minor1_gos, T.tv, ↓reduceIte, Nat.reduceEqDiff, reduceCtorEq, Nat.reduceLeDiff, Nat.reducePow, Int.reducePow, Int.reduceToNat, Nat.reduceAdd, lc, refV, e1, bx, Int.reduceEq]
    refine eff_callF rfl ((at_any R lk h32).mono ?_)
    rintro v1 h1 ⟨rfl, rfl⟩
    by_cases c2 : c.to = 0
    · have c2' : (c.to : Int) = 0 := by omega
      have l1 := R.h1
      have wl : IntKind.u32.wrap ((s.old.length : Nat) : Int) = ((s.old.length : Nat) : Int) := wrap_u32 (by omega) (by omega)
      simp (disch := first | omega | assumption) only [C.h_Minor1_gos, T.tv, ↓reduceIte, Nat.reduceEqDiff, reduceCtorEq, Nat.reduceLeDiff, Nat.reducePow, Int.reducePow, Int.reduceToNat, Nat.reduceAdd, lc, refV, a5, c2', bx, l1, wl]
      refine eff_store1_z T.zr_51 rfl rfl rfl rfl rfl a5 (R.frozen lk (by decide)) ?_
      have S1 := R.setc (c' := { c with to := s.old.length }) (v := .int .u32 (s.old.length : Int)) lk (j := 5) (by decide) rfl
      have es : setC s x { c with to := s.old.length } = { s with young := s.young.set (x - 2147483648) { c with to := s.old.length } } := by unfold setC; rw [if_neg c1]
      rw [es] at S1
      clear es
      generalize setAt h1 ⟨adrB p x, adrO x + 5, none⟩ (.int .u32 (s.old.length : Int)) = h2 at *
      have R2 := S1.rep
      have B2 := B.stp S1 Pk.refl
      have lk2 : look { s with young := s.young.set (x - 2147483648) { c with to := s.old.length } } x = some { c with to := s.old.length } := by
        unfold look; rw [if_neg c1]; show (s.young.set _ _)[_]? = _; rw [set_get hc, if_pos rfl]
      have eol : ({ s with young := s.young.set (x - 2147483648) { c with to := s.old.length } } : St).old = s.old := rfl
      have g2 : getL { s with young := s.young.set (x - 2147483648) { c with to := s.old.length } } loc = some x := by cases loc <;> exact hl
      generalize hs2 : ({ s with young := s.young.set (x - 2147483648) { c with to := s.old.length } } : St) = s2 at *
      have bx2 := B2.get
      have m1 := R2.h1
      rw [eol] at m1
      have m30 : cellAt h2 ⟨adrB p x, adrO x + 0, none⟩ = some (.int .i64 0) := R2.at lk2 0 _ rfl
      rw [Nat.add_zero] at m30
      have m31 : cellAt h2 ⟨adrB p x, adrO x + 1, none⟩ = some (.int .i64 0) := R2.at lk2 1 _ rfl
      have m32 : cellAt h2 ⟨adrB p x, adrO x + 2, none⟩ = some (.int .i64 0) := R2.at lk2 2 _ rfl
      have m33 : cellAt h2 ⟨adrB p x, adrO x + 3, none⟩ = some (sv c.rg c.rn) := R2.at lk2 3 _ rfl
      have m34 : cellAt h2 ⟨adrB p x, adrO x + 4, none⟩ = some (sv c.wg c.wn) := R2.at lk2 4 _ rfl
      simp (disch := first | omega | assumption) only [C.h_Minor1_gos, T.tv, ↓reduceIte, Nat.reduceEqDiff, reduceCtorEq, Nat.reduceLeDiff, Nat.reducePow, Int.reducePow, Int.reduceToNat, Nat.reduceAdd, bx2, m1, m30, m31, m32, m33, m34, sv]
      refine eff_lits T.slT_67 rfl rfl (by decide) ?_
      have bs2 : base ≤ h2.size := Nat.le_trans hbs S1.fr.size
      let cn : CP := { c with to := 0, seen := false }
      have X3 := Ext.push h2 (.cells cn.row.toArray 85)
      have R3 := R2.ext X3
      have rd3 : Rd (h2.push (.cells cn.row.toArray 85)) h2.size 0 cn.row := Rd_new (vs := cn.row)
      have B3 := B2.ext X3
      have bx3 := B3.get
      have er : (#[.int .i64 0, .int .i64 0, .int .i64 0, .slice (Option.map (fun b => { block := b, off := 0 }) c.rg) c.rn c.rn, .slice (Option.map (fun b => { block := b, off := 0 }) c.wg) c.wn c.wn, .int .u32 0, .bool false] : Array Value) = cn.row.toArray := rfl
      have o3 := R3.h1
      rw [eol] at o3
      have oo3 := R3.oo
      rw [eol] at oo3
      simp (disch := first | omega | assumption) only [C.h_Minor1_gos, T.tv, ↓reduceIte, Nat.reduceEqDiff, reduceCtorEq, Nat.reduceLeDiff, Nat.reducePow, Int.reducePow, Int.reduceToNat, Nat.reduceAdd, bx2]
      rw [er]
      have ss : h2.size < (h2.push (.cells cn.row.toArray 85)).size := by simp
      generalize h2.push (.cells cn.row.toArray 85) = h3 at *
      refine ⟨⟨bx3, bx3, o3⟩, ?_⟩
      refine eff_append_ownF (m := 1) T.slT_67 rfl rfl oo3 rfl rd3 (one_row cn) (by omega) (by omega) (Nat.le_trans bs2 X3.size) ?_
      intro v' h4 o4 f4 _ n4
      have n4' : ∀ k, v'.ownBlock = some k → k = p.O ∨ h3.size ≤ k := fun k hk => by
        rcases n4 k hk with h1 | h1
        · exact .inl (by cases h1; rfl)
        · exact .inr h1
      have f4' : Fr (fun k => k = p.O) h3 h4 := f4.mono fun k _ hk => by cases hk; rfl
      obtain ⟨O', oc', rfl, S4⟩ := R3.addOld (c := cn) (by rw [eol]; exact o4) f4' n4'
      rw [eol] at S4 ⊢
      have D3 := R3.dis
      have bx4 : cellAt h4 ⟨b, 0, none⟩ = some (ptr p.H 0) := by
        rw [f4'.cell B3.lt (fun e => B3.n (.inr (.inr (.inr (.inl e)))))]; exact bx3
      have l7 : ∃ u, cellAt h4 ⟨p.H, 1, none⟩ = some u := ⟨_, by rw [f4'.cell (R3.lt (.inr (.inl rfl))).2 D3.ho]; exact o3⟩
      obtain ⟨u7, l7⟩ := l7
      have l8 : frozenAt h4 ⟨p.H, 1, none⟩ = false := by
        rw [frozenAt_block (f4'.same _ (R3.lt (.inr (.inl rfl))).2 D3.ho)]; exact R3.hz 1
      simp (disch := first | omega | assumption) only [C.h_Minor1_gos, T.tv, ↓reduceIte, Nat.reduceEqDiff, reduceCtorEq, Nat.reduceLeDiff, Nat.reducePow, Int.reducePow, Int.reduceToNat, Nat.reduceAdd, bx4]
      refine eff_store1_z T.zr_67 rfl rfl rfl rfl rfl l7 l8 ?_
      generalize setAt h4 ⟨p.H, 1, none⟩ (.slice (some ⟨O', 0, none⟩) (s.old.length + 1) oc') = h5 at *
      have R5 := S4.rep
      have B5 := B3.stp S4 ⟨rfl, rfl⟩
      have bx5 := B5.get
      have esF : ({ s2 with old := s.old ++ [cn] } : St) = fwdC s (x - 2147483648) c := by rw [← hs2]; rfl
      rw [esF] at S4 R5 B5
      have hl5 : getL (fwdC s (x - 2147483648) c) loc = some x := by cases loc <;> exact hl
      have lk5 : look (fwdC s (x - 2147483648) c) x = some { c with to := s.old.length } := by
        unfold look; rw [if_neg c1]; show (s.young.set _ _)[_]? = _; rw [set_get hc, if_pos rfl]
      have lc5 := R5.locc hl5
      have a55 := R5.a5 lk5
      have eloc : locB { p with O := O', oc := oc' } loc = locB p loc := by cases loc <;> rfl
      rw [eloc] at lc5
      have lc51 := lc5.1
      simp (disch := first | omega | assumption) only [C.h_Minor1_gos, T.tv, ↓reduceIte, Nat.reduceEqDiff, reduceCtorEq, Nat.reduceLeDiff, Nat.reducePow, Int.reducePow, Int.reduceToNat, Nat.reduceAdd, lc51, bx5, refV]
      refine eff_callF rfl ((at_any R5 lk5 h32).mono ?_)
      rintro v1 h1 ⟨rfl, rfl⟩
      simp (disch := first | omega | assumption) only [C.h_Minor1_gos, T.tv, ↓reduceIte, Nat.reduceEqDiff, reduceCtorEq, Nat.reduceLeDiff, Nat.reducePow, Int.reducePow, Int.reduceToNat, Nat.reduceAdd, lc51, bx5, refV, a55]
      refine eff_store1_z T.zr_51 rfl rfl rfl rfl rfl lc51 lc5.2 ?_
      simp (disch := first | omega | assumption) only [C.h_Minor1_gos, T.tv, ↓reduceIte, Nat.reduceEqDiff, reduceCtorEq, Nat.reduceLeDiff, Nat.reducePow, Int.reducePow, Int.reduceToNat, Nat.reduceAdd]
      have S6 := R5.locs hl5 s.old.length
      rw [eloc] at S6
      have e : turnP s loc = setL (fwdC s (x - 2147483648) c) loc s.old.length := by unfold turnP; rw [hl]; simp only; rw [if_neg c1, hc]; simp only; rw [if_pos c2]
      rw [e]
      exact ⟨_, _, (((S1.ext X3).trans S4).trans S6)⟩
    · have c2' : ¬ (c.to : Int) = 0 := by omega
      simp (disch := first | omega | assumption) only [C.h_Minor1_gos, T.tv, ↓reduceIte, Nat.reduceEqDiff, reduceCtorEq, Nat.reduceLeDiff, Nat.reducePow, Int.reducePow, Int.reduceToNat, Nat.reduceAdd, lc, refV, a5, c2', bx]
      refine eff_callF rfl ((at_any R lk h32).mono ?_)
      rintro v1 h1 ⟨rfl, rfl⟩
      simp (disch := first | omega | assumption) only [C.h_Minor1_gos, T.tv, ↓reduceIte, Nat.reduceEqDiff, reduceCtorEq, Nat.reduceLeDiff, Nat.reducePow, Int.reducePow, Int.reduceToNat, Nat.reduceAdd, lc, refV, a5, c2', bx]
      refine eff_store1_z T.zr_51 rfl rfl rfl rfl rfl lc (R.locc hl).2 ?_
      simp (disch := first | omega | assumption) only [C.h_Minor1_gos, T.tv, ↓reduceIte, Nat.reduceEqDiff, reduceCtorEq, Nat.reduceLeDiff, Nat.reducePow, Int.reducePow, Int.reduceToNat, Nat.reduceAdd]
      refine ⟨p.O, p.oc, ?_⟩
      have e : turnP s loc = setL s loc c.to := by unfold turnP; rw [hl]; simp only; rw [if_neg c1, hc]; simp only; rw [if_neg c2]
      rw [e]
      exact R.locs hl c.to
end
end Go.Proofs.Ytidkokdkldfglaa

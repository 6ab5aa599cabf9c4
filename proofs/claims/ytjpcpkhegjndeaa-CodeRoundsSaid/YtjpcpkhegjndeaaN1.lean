/- The encoder of instructions: numbers. -/
import Derived.Test.YtjpcpkhegjndeaaB0
import Derived.Test.YtjpcpkhegjndeaaCd
import Derived.Test.YtjpcpkhegjndeaaCa
namespace Go.Proofs.Ytjpcpkhegjndeaa
open Go.Vc
set_option maxRecDepth 100000
set_option linter.unusedSimpArgs false
set_option linter.unusedVariables false

def atU (x : Int) : Nat := (IntKind.u64.wrap x).toNat
theorem atU_wrap (x : Int) : IntKind.u64.wrap x = ((atU x : Nat) : Int) ∧ atU x < 18446744073709551616 := by
  have h : 0 ≤ IntKind.u64.wrap x ∧ IntKind.u64.wrap x < 18446744073709551616 := by
    simp only [IntKind.wrap, IntKind.signed, IntKind.bits]
    first | (simp; omega) | omega
  unfold atU
  omega
theorem atU_nat {x : Nat} (h : x < 18446744073709551616) : atU (x : Int) = x := by
  unfold atU; rw [wrap_u64 (by omega) (by omega)]; omega

/-- The blocks that are kept: all but the encoder's and such of bytes. -/
def KeepB (h h' : Heap) (g : Nat) : Prop := h.size ≤ h'.size ∧ (∀ c cs e fz, c ≠ g → e ≠ 5 → h[c]? = some (.cells cs e fz) → h'[c]? = some (.cells cs e fz)) ∧ ∀ (c : Nat) (es : Array MapEntry) (k : Nat), h[c]? = some (Obj.map es k) → h'[c]? = some (Obj.map es k)
theorem KeepB.refl (h : Heap) (g : Nat) : KeepB h h g := ⟨Nat.le_refl _, fun _ _ _ _ _ _ h => h, fun _ _ _ h => h⟩
theorem KeepB.trans {a b c : Heap} {g : Nat} (H : KeepB a b g) (K : KeepB b c g) : KeepB a c g :=
  ⟨Nat.le_trans H.1 K.1, fun _ _ _ _ h1 h2 h3 => K.2.1 _ _ _ _ h1 h2 (H.2.1 _ _ _ _ h1 h2 h3), fun _ _ _ h => K.2.2 _ _ _ (H.2.2 _ _ _ h)⟩
theorem KeepB.ext {h h' : Heap} {g : Nat} (H : Ext h h') : KeepB h h' g := ⟨H.size, fun _ _ _ _ _ _ h3 => Fr_blk H h3 id, fun _ _ _ h3 => Fr_blk H h3 id⟩
theorem KeepB.blk {h h' : Heap} {g c : Nat} {cs : Array Value} {t : TypeId} {fz : Nat × Nat} (H : KeepB h h' g) (hb : h[c]? = some (.cells cs t fz)) (hne : c ≠ g) (ht : t ≠ 5) : h'[c]? = some (.cells cs t fz) := H.2.1 _ _ _ _ hne ht hb
def En (h0 h : Heap) (g : Nat) (b : List UInt8) (ok : Bool) : Prop :=
  h0.size ≤ g ∧ Ext h0 h ∧ ∃ vb, h[g]? = some (.cells #[vb, .bool ok] 39 (0, 0)) ∧ Own h h0.size 5 1 vb b.length (bytesV b)
theorem Own_nomap {h : Heap} {base : Nat} {e : TypeId} {size n c : Nat} {v : Value} {xs : List Value} {es : Array MapEntry} {k : Nat} (H : Own h base e size v n xs) (hb : h[c]? = some (Obj.map es k)) : ¬ v.ownBlock = some c := by
  intro hk
  rcases H.2 with ⟨rfl, _⟩ | ⟨g, cap, cur, fz', rfl, _, hg, _⟩
  · simp [Value.ownBlock] at hk
  · simp [Value.ownBlock] at hk
    subst hk
    rw [hg] at hb
    cases hb
section
variable {h0 h : Heap} {g : Nat} {b : List UInt8} {ok : Bool}
theorem En.ext {h' : Heap} (H : En h0 h g b ok) (hx : Ext h h') : En h0 h' g b ok := by
  obtain ⟨h1, h2, vb, h3, h4⟩ := H
  exact ⟨h1, h2.trans hx, vb, Fr_blk hx h3 id, h4.ext hx⟩
theorem En.lt (H : En h0 h g b ok) : g < h.size := by
  obtain ⟨_, _, vb, h3, _⟩ := H
  exact (Array.getElem?_eq_some_iff.1 h3).1
theorem En.c1 (H : En h0 h g b ok) : cellAt h ⟨g, 1, none⟩ = some (.bool ok) := by
  obtain ⟨_, _, vb, h3, _⟩ := H
  rw [cellAt_of h3]; rfl
/-- The flag set. -/
theorem En.setOk (H : En h0 h g b ok) (q : Bool) : En h0 (setAt h ⟨g, 1, none⟩ (.bool q)) g b q ∧ KeepB h (setAt h ⟨g, 1, none⟩ (.bool q)) g := by
  obtain ⟨hg, x0, vb, hblk, own⟩ := H
  have b1 := setAt_get (o := 1) hblk (.bool q)
  have f1 : Fr (fun k => k = g) h (setAt h ⟨g, 1, none⟩ (.bool q)) := Fr.set (S := fun k => k = g) _ _ _ fun _ => rfl
  refine ⟨⟨hg, Fr.trans x0 f1 (fun _ _ h => h) (fun k hk hS => by omega), vb, b1, own.fr f1 (fun k hk hS => ?_)⟩, f1.size, fun c cs t fz h1 h2 h3 => Fr_blk f1 h3 h1, fun c es k h3 => Fr_blk f1 h3 (fun he => ?_)⟩
  · subst hS
    exact Own_ne own hblk (by decide) hk
  · subst he
    rw [hblk] at h3; cases h3
/-- A slice of bytes stored. -/
theorem En.setB {v2 : Value} {h2 : Heap} {vb : Value} {b2 : List UInt8} (hg : h0.size ≤ g) (x2 : Ext h0 h2) (hblk : h2[g]? = some (.cells #[vb, .bool ok] 39 (0, 0))) (own2 : Own h2 h0.size 5 1 v2 b2.length (bytesV b2)) :
    En h0 (setAt h2 ⟨g, 0, none⟩ v2) g b2 ok ∧ KeepB h2 (setAt h2 ⟨g, 0, none⟩ v2) g := by
  have b1 := setAt_get (o := 0) hblk v2
  have f1 : Fr (fun k => k = g) h2 (setAt h2 ⟨g, 0, none⟩ v2) := Fr.set (S := fun k => k = g) _ _ _ fun _ => rfl
  refine ⟨⟨hg, Fr.trans x2 f1 (fun _ _ h => h) (fun k hk hS => by omega), v2, b1, own2.fr f1 (fun k hk hS => ?_)⟩, f1.size, fun c cs t fz h1 h2 h3 => Fr_blk f1 h3 h1, fun c es k h3 => Fr_blk f1 h3 (fun he => ?_)⟩
  · subst hS
    exact Own_ne own2 hblk (by decide) hk
  · subst he
    rw [hblk] at h3; cases h3
theorem KeepB.app {h2 : Heap} {vb : Value} {base n : Nat} {xs : List Value} (own : Own h base 5 1 vb n xs) (fr : Fr (fun k => vb.ownBlock = some k) h h2) : KeepB h h2 g :=
  ⟨fr.size, fun c cs t fz _ h2' h3 => Fr_blk fr h3 (Own_ne own h3 (Ne.symm h2')), fun c es k h3 => Fr_blk fr h3 (Own_nomap own h3)⟩

set_option maxHeartbeats 1000000 in
theorem put_any (x lo hi : Int) (n : Nat) (hn : n ≤ 8) (hb : b.length ≤ 1099511627776) (H : En h0 h g b ok) :
    HCalls Try.prog 32 #[.pointer (some ⟨g, 0, none⟩), .int .i64 x, .int .i64 n, .int .i64 lo, .int .i64 hi] h fun _ h' => En h0 h' g (b ++ bigS (atU x) n) (ok && (decide (lo ≤ x) && decide (x ≤ hi))) ∧ KeepB h h' g := by
  refine C.code_put_calls (args := [.pointer (some ⟨g, 0, none⟩), .int .i64 x, .int .i64 n, .int .i64 lo, .int .i64 hi]) rfl ?_
  have c1 := H.c1
  obtain ⟨hw, hlt⟩ := atU_wrap x
  have hfz : frozenAt h ⟨g, 1, none⟩ = false := by
    obtain ⟨_, _, vb, hblk, _⟩ := H
    simp [frozenAt, hblk]
  have hcs : ok = false ∨ (ok = true ∧ ¬ lo ≤ x) ∨ (ok = true ∧ lo ≤ x ∧ ¬ x ≤ hi) ∨ (ok = true ∧ lo ≤ x ∧ x ≤ hi) := by
    by_cases h1 : lo ≤ x <;> by_cases h2 : x ≤ hi <;> cases ok <;> simp [h1, h2]
  rcases hcs with ho | ⟨ho, g1⟩ | ⟨ho, g1, g2⟩ | ⟨ho, g1, g2⟩
  case' inl =>
    rw [ho] at c1
    have hq : (ok && (decide (lo ≤ x) && decide (x ≤ hi))) = false := by simp [ho]
    rw [hq]
    simp (disch := first | omega | assumption) only [C.code_put_gos, vs, Go.Vc.vk, T.ts, ↓reduceIte, Nat.reduceEqDiff, reduceCtorEq, Nat.reduceLeDiff, Nat.reducePow, Int.reducePow, Int.reduceToNat, Nat.reduceAdd, c1]
    refine eff_store1_z T.zr_4 rfl rfl rfl rfl rfl c1 hfz ?_
    obtain ⟨H1, K1⟩ := H.setOk false
    generalize setAt h ⟨g, 1, none⟩ (.bool false) = h1 at *
  case' inr.inl =>
    rw [ho] at c1
    have hq : (ok && (decide (lo ≤ x) && decide (x ≤ hi))) = false := by simp [ho, g1]
    rw [hq]
    simp (disch := first | omega | assumption) only [C.code_put_gos, vs, Go.Vc.vk, T.ts, ↓reduceIte, Nat.reduceEqDiff, reduceCtorEq, Nat.reduceLeDiff, Nat.reducePow, Int.reducePow, Int.reduceToNat, Nat.reduceAdd, c1, g1, decide_true, decide_false]
    refine eff_store1_z T.zr_4 rfl rfl rfl rfl rfl c1 hfz ?_
    obtain ⟨H1, K1⟩ := H.setOk false
    generalize setAt h ⟨g, 1, none⟩ (.bool false) = h1 at *
  case' inr.inr.inl =>
    rw [ho] at c1
    have hq : (ok && (decide (lo ≤ x) && decide (x ≤ hi))) = false := by simp [ho, g2]
    rw [hq]
    simp (disch := first | omega | assumption) only [C.code_put_gos, vs, Go.Vc.vk, T.ts, ↓reduceIte, Nat.reduceEqDiff, reduceCtorEq, Nat.reduceLeDiff, Nat.reducePow, Int.reducePow, Int.reduceToNat, Nat.reduceAdd, c1, g1, g2, decide_true, decide_false]
    refine eff_store1_z T.zr_4 rfl rfl rfl rfl rfl c1 hfz ?_
    obtain ⟨H1, K1⟩ := H.setOk false
    generalize setAt h ⟨g, 1, none⟩ (.bool false) = h1 at *
  case' inr.inr.inr =>
    rw [ho] at c1
    have hq : (ok && (decide (lo ≤ x) && decide (x ≤ hi))) = true := by simp [ho, g1, g2]
    rw [hq]
    simp (disch := first | omega | assumption) only [C.code_put_gos, vs, Go.Vc.vk, T.ts, ↓reduceIte, Nat.reduceEqDiff, reduceCtorEq, Nat.reduceLeDiff, Nat.reducePow, Int.reducePow, Int.reduceToNat, Nat.reduceAdd, c1, g1, g2, decide_true, decide_false]
    refine eff_store1_z T.zr_4 rfl rfl rfl rfl rfl c1 hfz ?_
    obtain ⟨H1, K1⟩ := H.setOk true
    generalize setAt h ⟨g, 1, none⟩ (.bool true) = h1 at *
  all_goals
    obtain ⟨hg, x0, vb, hblk, own⟩ := H1
    have c0 : cellAt h1 ⟨g, 0, none⟩ = some vb := by rw [cellAt_of hblk]; rfl
    simp (disch := first | omega | assumption) only [C.code_put_gos, vs, Go.Vc.vk, T.ts, ↓reduceIte, Nat.reduceEqDiff, reduceCtorEq, Nat.reduceLeDiff, Nat.reducePow, Int.reducePow, Int.reduceToNat, Nat.reduceAdd, c0, hw]
    refine eff_call_of ?_
    simp (disch := first | omega | assumption) only [C.code_put_gos, vs, Go.Vc.vk, T.ts, ↓reduceIte, Nat.reduceEqDiff, reduceCtorEq, Nat.reduceLeDiff, Nat.reducePow, Int.reducePow, Int.reduceToNat, Nat.reduceAdd]
    refine (big_any (atU x) n h1 hlt hn).mono ?_
    rintro v1 h2 ⟨x1, rfl⟩
    have own1 := own.ext x1
    have blk1 := Fr_blk x1 hblk id
    have c01 : cellAt h2 ⟨g, 0, none⟩ = some vb := by rw [cellAt_of blk1]; rfl
    simp (disch := first | omega | assumption) only [C.code_put_gos, vs, Go.Vc.vk, T.ts, ↓reduceIte, Nat.reduceEqDiff, reduceCtorEq, Nat.reduceLeDiff, Nat.reducePow, Int.reducePow, Int.reduceToNat, Nat.reduceAdd, c01]
    refine eff_append_str (l := bigS (atU x) n) T.slT_37 Try.underlying9 rfl rfl own1 (by rw [bigS_len]; omega) (by rw [bigS_len]; omega) (x0.trans x1).size ?_
    intro v2 h3 own2 fr2
    have ext2 : Ext h0 h3 := Ext.app (x0.trans x1) fr2 (fun k hk => (own1.lt k hk).1)
    have blk2 := Fr_blk fr2 blk1 (Own_ne own1 blk1 (by decide))
    obtain ⟨a2, cc2, rfl, _⟩ := own2.slN.2
    have c02 : cellAt h3 ⟨g, 0, none⟩ = some vb := by rw [cellAt_of blk2]; rfl
    simp (disch := first | omega | assumption) only [C.code_put_gos, vs, Go.Vc.vk, T.ts, ↓reduceIte, Nat.reduceEqDiff, reduceCtorEq, Nat.reduceLeDiff, Nat.reducePow, Int.reducePow, Int.reduceToNat, Nat.reduceAdd]
    refine eff_store1_z T.zr_37 rfl rfl rfl rfl rfl c02 (by simp [frozenAt, blk2]) ?_
    have own3 : Own h3 h0.size 5 1 (.slice a2 (b.length + (bigS (atU x) n).length) cc2) (b ++ bigS (atU x) n).length (bytesV (b ++ bigS (atU x) n)) := Own_cast own2 (by simp) (by simp [bytesV])
    obtain ⟨H3, K3⟩ := En.setB hg ext2 blk2 own3
    simp (disch := first | omega | assumption) only [C.code_put_gos, vs, Go.Vc.vk, T.ts, ↓reduceIte, Nat.reduceEqDiff, reduceCtorEq, Nat.reduceLeDiff, Nat.reducePow, Int.reducePow, Int.reduceToNat, Nat.reduceAdd]
    exact ⟨H3, ((K1.trans (KeepB.ext x1)).trans (KeepB.app own1 fr2)).trans K3⟩
end
end Go.Proofs.Ytjpcpkhegjndeaa

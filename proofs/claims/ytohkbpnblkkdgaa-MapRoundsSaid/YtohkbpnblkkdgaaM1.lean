/- The writer of maps: its number and its failing. -/
import Derived.Test.YtohkbpnblkkdgaaB0
import Derived.Test.YtohkbpnblkkdgaaCd
import Derived.Test.YtohkbpnblkkdgaaCa
namespace Go.Proofs.Ytohkbpnblkkdgaa
open Go.Vc
set_option maxRecDepth 100000
set_option linter.unusedSimpArgs false
set_option linter.unusedVariables false

def atU (x : Int) : Nat := (IntKind.u64.wrap x).toNat
theorem atU_wrap (x : Int) : IntKind.u64.wrap x = ((atU x : Nat) : Int) ∧ atU x < 18446744073709551616 := by
  have h : 0 ≤ IntKind.u64.wrap x ∧ IntKind.u64.wrap x < 18446744073709551616 := by
    simp only [IntKind.wrap, IntKind.signed, IntKind.bits]
    first | (simp; omega) | omega
  unfold atU
  omega
theorem atU_nat {x : Nat} (h : x < 18446744073709551616) : atU (x : Int) = x := by
  unfold atU; rw [wrap_u64 (by omega) (by omega)]; omega

/-- The blocks that are kept: all but the writer's and such of bytes. -/
def KeepB (h h' : Heap) (g : Nat) : Prop := h.size ≤ h'.size ∧ ∀ c cs e fz, c ≠ g → e ≠ 5 → h[c]? = some (.cells cs e fz) → h'[c]? = some (.cells cs e fz)
theorem KeepB.refl (h : Heap) (g : Nat) : KeepB h h g := ⟨Nat.le_refl _, fun _ _ _ _ _ _ h => h⟩
theorem KeepB.trans {a b c : Heap} {g : Nat} (H : KeepB a b g) (K : KeepB b c g) : KeepB a c g := ⟨Nat.le_trans H.1 K.1, fun _ _ _ _ h1 h2 h3 => K.2 _ _ _ _ h1 h2 (H.2 _ _ _ _ h1 h2 h3)⟩
theorem KeepB.ext {h h' : Heap} {g : Nat} (H : Ext h h') : KeepB h h' g := ⟨H.size, fun _ _ _ _ _ _ h3 => Fr_blk H h3 id⟩
def Wr (h0 h : Heap) (g : Nat) (vp : Value) (b : List UInt8) (e : Nat) : Prop :=
  h0.size ≤ g ∧ Ext h0 h ∧ ∃ vb, h[g]? = some (.cells #[vb, vp, .int .i64 e] 71 (0, 0)) ∧ Own h h0.size 5 1 vb b.length (bytesV b)
section
variable {h0 h : Heap} {g : Nat} {vp : Value} {b : List UInt8} {e : Nat}
theorem Wr.ext {h' : Heap} (H : Wr h0 h g vp b e) (hx : Ext h h') : Wr h0 h' g vp b e := by
  obtain ⟨h1, h2, vb, h3, h4⟩ := H
  exact ⟨h1, h2.trans hx, vb, Fr_blk hx h3 id, h4.ext hx⟩
theorem Wr.lt (H : Wr h0 h g vp b e) : g < h.size := by
  obtain ⟨_, _, vb, h3, _⟩ := H
  exact (Array.getElem?_eq_some_iff.1 h3).1

theorem wnum_any (x : Int) (n : Nat) (hn : n ≤ 8) (hb : b.length ≤ 1099511627776) (H : Wr h0 h g vp b e) :
    HCalls Try.prog 35 #[.pointer (some ⟨g, 0, none⟩), .int .i64 x, .int .i64 n] h fun _ h' => Wr h0 h' g vp (b ++ bigS (atU x) n) e ∧ KeepB h h' g := by
  refine C.maps_wnum_calls (args := [.pointer (some ⟨g, 0, none⟩), .int .i64 x, .int .i64 n]) rfl ?_
  obtain ⟨hg, x0, vb, hblk, own⟩ := H
  have c0 : cellAt h ⟨g, 0, none⟩ = some vb := by rw [cellAt_of hblk]; rfl
  obtain ⟨hw, hlt⟩ := atU_wrap x
  simp (disch := first | omega | assumption) only [C.maps_wnum_gos, vs, Go.Vc.vk, T.ts, ↓reduceIte, Nat.reduceEqDiff, reduceCtorEq, Nat.reduceLeDiff, Nat.reducePow, Int.reducePow, Int.reduceToNat, Nat.reduceAdd, c0, hw]
  refine eff_call_of ?_
  simp (disch := first | omega | assumption) only [C.maps_wnum_gos, vs, Go.Vc.vk, T.ts, ↓reduceIte, Nat.reduceEqDiff, reduceCtorEq, Nat.reduceLeDiff, Nat.reducePow, Int.reducePow, Int.reduceToNat, Nat.reduceAdd]
  refine (big_any (atU x) n h hlt hn).mono ?_
  rintro v1 h1 ⟨x1, rfl⟩
  have own1 := own.ext x1
  have blk1 := Fr_blk x1 hblk id
  have c01 : cellAt h1 ⟨g, 0, none⟩ = some vb := by rw [cellAt_of blk1]; rfl
  simp (disch := first | omega | assumption) only [C.maps_wnum_gos, vs, Go.Vc.vk, T.ts, ↓reduceIte, Nat.reduceEqDiff, reduceCtorEq, Nat.reduceLeDiff, Nat.reducePow, Int.reducePow, Int.reduceToNat, Nat.reduceAdd, c01]
  refine eff_append_str (l := bigS (atU x) n) T.slT_69 Try.underlying9 rfl rfl own1 (by rw [bigS_len]; omega) (by rw [bigS_len]; omega) (x0.trans x1).size ?_
  intro v2 h2 own2 fr2
  have ext2 : Ext h0 h2 := Ext.app (x0.trans x1) fr2 (fun k hk => (own1.lt k hk).1)
  have blk2 := Fr_blk fr2 blk1 (Own_ne own1 blk1 (by decide))
  obtain ⟨a2, c2, rfl, _⟩ := own2.slN.2
  have c02 : cellAt h2 ⟨g, 0, none⟩ = some vb := by rw [cellAt_of blk2]; rfl
  simp (disch := first | omega | assumption) only [C.maps_wnum_gos, vs, Go.Vc.vk, T.ts, ↓reduceIte, Nat.reduceEqDiff, reduceCtorEq, Nat.reduceLeDiff, Nat.reducePow, Int.reducePow, Int.reduceToNat, Nat.reduceAdd]
  refine eff_store1_z T.zr_69 rfl rfl rfl rfl rfl c02 (by simp [frozenAt, blk2]) ?_
  rw [bigS_len] at own2 ⊢
  have b3 := setAt_get (o := 0) blk2 (.slice a2 (b.length + n) c2)
  have f3 : Fr (fun k => k = g) h2 (setAt h2 ⟨g, 0, none⟩ (.slice a2 (b.length + n) c2)) := Fr.set (S := fun k => k = g) _ _ _ fun _ => rfl
  simp (disch := first | omega | assumption) only [C.maps_wnum_gos, vs, Go.Vc.vk, T.ts, ↓reduceIte, Nat.reduceEqDiff, reduceCtorEq, Nat.reduceLeDiff, Nat.reducePow, Int.reducePow, Int.reduceToNat, Nat.reduceAdd]
  refine ⟨⟨hg, Fr.trans ext2 f3 (fun _ _ h => h) (fun k hk hS => by omega), _, b3, ?_⟩, ?_⟩
  · refine Own_cast (own2.fr f3 (fun k hk hS => ?_)) (by simp [bigS_len]) (by simp [bytesV])
    subst hS
    exact Own_ne own2 blk2 (by decide) hk
  · refine KeepB.trans (KeepB.ext x1) (KeepB.trans (b := h2) ⟨fr2.size, fun c cs t fz h1' h2' h3' => Fr_blk fr2 h3' (Own_ne own1 h3' (Ne.symm h2'))⟩ ⟨f3.size, fun c cs t fz h1' h2' h3' => Fr_blk f3 h3' h1'⟩)
theorem wfail_any (q : Nat) (H : Wr h0 h g vp b e) :
    HCalls Try.prog 89 #[.pointer (some ⟨g, 0, none⟩), .int .i64 q] h fun _ h' => Wr h0 h' g vp b (if e = 0 then q else e) ∧ KeepB h h' g := by
  refine C.maps_wfail_calls (args := [.pointer (some ⟨g, 0, none⟩), .int .i64 q]) rfl ?_
  obtain ⟨hg, x0, vb, hblk, own⟩ := H
  have c2 : cellAt h ⟨g, 2, none⟩ = some (.int .i64 (e : Int)) := by rw [cellAt_of hblk]; rfl
  by_cases he : e = 0
  · have he' : (e : Int) = 0 := by omega
    rw [if_pos he]
    simp (disch := first | omega | assumption) only [C.maps_wfail_gos, vs, Go.Vc.vk, T.ts, ↓reduceIte, Nat.reduceEqDiff, reduceCtorEq, Nat.reduceLeDiff, Nat.reducePow, Int.reducePow, Int.reduceToNat, Nat.reduceAdd, c2, eq_true he']
    refine eff_store1_z T.zr_27 rfl rfl rfl rfl rfl c2 (by simp [frozenAt, hblk]) ?_
    have b1 := setAt_get (o := 2) hblk (.int .i64 (q : Int))
    have f1 : Fr (fun k => k = g) h (setAt h ⟨g, 2, none⟩ (.int .i64 (q : Int))) := Fr.set (S := fun k => k = g) _ _ _ fun _ => rfl
    simp (disch := first | omega | assumption) only [C.maps_wfail_gos, vs, Go.Vc.vk, T.ts, ↓reduceIte, Nat.reduceEqDiff, reduceCtorEq, Nat.reduceLeDiff, Nat.reducePow, Int.reducePow, Int.reduceToNat, Nat.reduceAdd]
    refine ⟨⟨hg, Fr.trans x0 f1 (fun _ _ h => h) (fun k hk hS => by omega), vb, b1, own.fr f1 (fun k hk hS => ?_)⟩, f1.size, fun c cs t fz h1 h2 h3 => Fr_blk f1 h3 h1⟩
    subst hS
    exact Own_ne own hblk (by decide) hk
  · have he' : ¬ (e : Int) = 0 := by omega
    rw [if_neg he]
    simp (disch := first | omega | assumption) only [C.maps_wfail_gos, vs, Go.Vc.vk, T.ts, ↓reduceIte, Nat.reduceEqDiff, reduceCtorEq, Nat.reduceLeDiff, Nat.reducePow, Int.reducePow, Int.reduceToNat, Nat.reduceAdd, c2, eq_false he']
    exact ⟨⟨hg, x0, vb, hblk, own⟩, KeepB.refl _ _⟩
end
end Go.Proofs.Ytohkbpnblkkdgaa

/- The encoder of instructions: one instruction. -/
import Derived.Test.YtjpcpkhegjndeaaN5
namespace Go.Proofs.Ytjpcpkhegjndeaa
open Go.Vc
set_option maxRecDepth 100000
set_option linter.unusedSimpArgs false
set_option linter.unusedVariables false

def tgtS (s : ES) (x : In) (n : Nat) : ES := (s.1, s.2 && decide (x.tgts.length = n))
def headE (x : In) (s : ES) : ES := ((if x.wide = true then s.1 ++ [196] else s.1) ++ [UInt8.ofNat x.op], s.2)
def sizeE (x : In) : Nat := if x.wide = true then 2 else 1
def jmpE (x : In) (s : ES) (n : Nat) : ES := if (tgtS s x 1).2 = true then sgnS (tgtS s x 1) (wr (x.tgts.getD 0 0 - x.at')) n else tgtS s x 1
def putX (s : ES) (y : Int) (n : Nat) (lo hi : Int) : ES := putS s y n (decide (lo ≤ y) && decide (y ≤ hi))
def oneE (x : In) (f : Nat) (s : ES) : ES :=
  let h := headE x s
  let p := tgtS h x 0
  if f = 0 then p
  else if f = 2 then sgnS p x.A 1
  else if f = 3 then sgnS p x.A 2
  else if f = 4 then unsS p x.A 1
  else if f = 5 then unsS p x.A 2
  else if f = 6 then unsS p x.A (sizeE x)
  else if f = 7 then sgnS (unsS p x.A (sizeE x)) x.B (sizeE x)
  else if f = 8 then jmpE x h 2
  else if f = 9 then jmpE x h 4
  else if f = 10 then choE x 10 h
  else if f = 11 then choE x 11 h
  else if f = 12 then ((putX (unsS p x.A 2) x.B 1 1 255).1 ++ [0], (putX (unsS p x.A 2) x.B 1 1 255).2)
  else if f = 13 then putX p x.A 1 4 11
  else putX (unsS p x.A 2) x.B 1 1 255

section
variable {h0 h : Heap} {g : Nat}
set_option maxHeartbeats 16000000 in
theorem one_any (x : In) (f : Nat) (s : ES) (vk vt : Value) (hf : f = 0 ∨ f = 2 ∨ f = 3 ∨ f = 4 ∨ f = 5 ∨ f = 6 ∨ f = 7 ∨ f = 8 ∨ f = 9 ∨ f = 10 ∨ f = 11 ∨ f = 12 ∨ f = 13 ∨ f = 14) (hx : x.Fit) (hk : SlN h0 1 vk x.keys.length (intsV x.keys)) (ht : SlN h0 1 vt x.tgts.length (intsV x.tgts)) (htc : capOk vt)
    (hkl : x.keys.length ≤ 1073741824) (htl : x.tgts.length ≤ 1073741824) (hb : s.1.length ≤ 536870912) (H : En h0 h g s.1 s.2) :
    HCalls Try.prog 15 #[.pointer (some ⟨g, 0, none⟩), .agg (enV x vk vt), .int .i64 f] h fun _ h' => En h0 h' g (oneE x f s).1 (oneE x f s).2 ∧ KeepB h h' g := by
  refine C.code_one_calls (args := [.pointer (some ⟨g, 0, none⟩), .agg (enV x vk vt), .int .i64 f]) rfl ?_
  have hk' := hk
  have ht' := ht
  obtain ⟨_, ak, ck, rfl, _⟩ := hk'
  obtain ⟨_, at7, ct, rfl, _⟩ := ht'
  have hcap : x.tgts.length ≤ ct := htc
  have hop := hx.op
  have hopb : UInt8.toNat (UInt8.ofNat x.op) = x.op := by simp; omega
  simp only [enV, InV]
  have hgs := H.lt
  simp (disch := first | omega | assumption) only [C.code_one_gos, vs, Go.Vc.vk, T.ts, ↓reduceIte, Nat.reduceEqDiff, reduceCtorEq, Nat.reduceLeDiff, Nat.reducePow, Int.reducePow, Int.reduceToNat, Nat.reduceAdd]
  refine eff_box ?_
  have E := Ext.push h (.cells #[.int .i64 x.at', .int .u8 (x.op : Int), .bool x.wide, .int .i64 x.A, .int .i64 x.B, .int .i64 x.low, .slice ak x.keys.length ck, .slice at7 x.tgts.length ct] 35)
  have H1 := H.ext E
  have K1 : KeepB h _ g := KeepB.ext E
  have q0 : (h.push (.cells #[.int .i64 x.at', .int .u8 (x.op : Int), .bool x.wide, .int .i64 x.A, .int .i64 x.B, .int .i64 x.low, .slice ak x.keys.length ck, .slice at7 x.tgts.length ct] 35))[h.size]? = some (.cells #[.int .i64 x.at', .int .u8 (x.op : Int), .bool x.wide, .int .i64 x.A, .int .i64 x.B, .int .i64 x.low, .slice ak x.keys.length ck, .slice at7 x.tgts.length ct] 35 (0, 0)) := by simp
  have hqg : h.size ≠ g := by omega
  simp (disch := first | omega | assumption) only [C.code_one_gos, vs, Go.Vc.vk, T.ts, ↓reduceIte, Nat.reduceEqDiff, reduceCtorEq, Nat.reduceLeDiff, Nat.reducePow, Int.reducePow, Int.reduceToNat, Nat.reduceAdd]
  generalize h.push (.cells #[.int .i64 x.at', .int .u8 (x.op : Int), .bool x.wide, .int .i64 x.A, .int .i64 x.B, .int .i64 x.low, .slice ak x.keys.length ck, .slice at7 x.tgts.length ct] 35) = h1 at *
  obtain ⟨q, hq⟩ : ∃ y, y = h.size := ⟨_, rfl⟩
  rw [← hq] at q0 hqg ⊢
  have facts : ∀ hc : Heap, hc[q]? = some (.cells #[.int .i64 x.at', .int .u8 (x.op : Int), .bool x.wide, .int .i64 x.A, .int .i64 x.B, .int .i64 x.low, .slice ak x.keys.length ck, .slice at7 x.tgts.length ct] 35 (0, 0)) → cellAt hc ⟨q, 0, none⟩ = some (.int .i64 x.at') ∧ cellAt hc ⟨q, 1, none⟩ = some (.int .u8 (x.op : Int)) ∧ cellAt hc ⟨q, 2, none⟩ = some (.bool x.wide) ∧ cellAt hc ⟨q, 3, none⟩ = some (.int .i64 x.A) ∧ cellAt hc ⟨q, 4, none⟩ = some (.int .i64 x.B) ∧ cellAt hc ⟨q, 7, none⟩ = some (.slice at7 x.tgts.length ct) ∧ ld Try.prog 35 ⟨q, 0, none⟩ hc = some (.agg #[.int .i64 x.at', .int .u8 (x.op : Int), .bool x.wide, .int .i64 x.A, .int .i64 x.B, .int .i64 x.low, .slice ak x.keys.length ck, .slice at7 x.tgts.length ct]) := by
    intro hc qk
    refine ⟨by rw [cellAt_of qk]; rfl, by rw [cellAt_of qk]; rfl, by rw [cellAt_of qk]; rfl, by rw [cellAt_of qk]; rfl, by rw [cellAt_of qk]; rfl, by rw [cellAt_of qk]; rfl, ?_⟩
    exact ld_agg T.ag_35 (vs := [.int .i64 x.at', .int .u8 (x.op : Int), .bool x.wide, .int .i64 x.A, .int .i64 x.B, .int .i64 x.low, .slice ak x.keys.length ck, .slice at7 x.tgts.length ct]) (fun j v hv => by rw [cellAt_of qk, Nat.zero_add]; simpa using hv) rfl
  obtain ⟨e0, e1, e2, e3, e4, e7, eL⟩ := facts h1 q0
  clear H E
  obtain ⟨b, ok⟩ := s
  simp only at hb H1
  have hw : x.wide = true ∨ x.wide = false := by cases x.wide <;> simp
  rcases hw with hw | hw
  case' inl =>
    have hhd : headE x (b, ok) = ((b ++ [196]) ++ [UInt8.ofNat x.op], ok) := by unfold headE; rw [if_pos hw]
    have hsz : (sizeE x = 1 ∨ sizeE x = 2) ∧ ((2 : Nat) : Int) = sizeE x := by unfold sizeE; rw [if_pos hw]; simp
    have HW := H1
    obtain ⟨hg, x0, vb, hblk, own⟩ := HW
    obtain ⟨ab, cb, rfl, _⟩ := own.slN.2
    have c0 : cellAt h1 ⟨g, 0, none⟩ = some (.slice ab b.length cb) := by rw [cellAt_of hblk]; rfl
    simp (disch := first | omega | assumption) only [C.code_one_gos, vs, Go.Vc.vk, T.ts, ↓reduceIte, Nat.reduceEqDiff, reduceCtorEq, Nat.reduceLeDiff, Nat.reducePow, Int.reducePow, Int.reduceToNat, Nat.reduceAdd, c0, e2, hw]
    refine eff_lits T.slT_37 rfl rfl (by decide) ?_
    simp (disch := first | omega | assumption) only [C.code_one_gos, vs, Go.Vc.vk, T.ts, ↓reduceIte, Nat.reduceEqDiff, reduceCtorEq, Nat.reduceLeDiff, Nat.reducePow, Int.reducePow, Int.reduceToNat, Nat.reduceAdd]
    refine eff_append_own (m := 1) T.slT_37 rfl rfl (own.push _) rfl (Rd_new (vs := [.int .u8 196])) (by simp [oneCell]) (by omega) (by omega) (by have := x0.size; simp; omega) ?_
    intro v2 h2 own2 fr2 _
    have ext2 : Ext h0 h2 := Ext.app (x0.trans (Ext.push _ _)) fr2 (fun k hk => (own.lt k hk).1)
    have blk2 := Fr_blk fr2 (push_blk hblk) (Own_ne own hblk (by decide))
    obtain ⟨a2, cc2, rfl, _⟩ := own2.slN.2
    have c02 : cellAt h2 ⟨g, 0, none⟩ = some (.slice ab b.length cb) := by rw [cellAt_of blk2]; rfl
    simp (disch := first | omega | assumption) only [C.code_one_gos, vs, Go.Vc.vk, T.ts, ↓reduceIte, Nat.reduceEqDiff, reduceCtorEq, Nat.reduceLeDiff, Nat.reducePow, Int.reducePow, Int.reduceToNat, Nat.reduceAdd]
    refine eff_store1_z T.zr_37 rfl rfl rfl rfl rfl c02 (by simp [frozenAt, blk2]) ?_
    have own3 : Own h2 h0.size 5 1 (.slice a2 (b.length + 1) cc2) (b ++ [196]).length (bytesV (b ++ [196])) := Own_cast own2 (by simp) (by simp [bytesV])
    obtain ⟨H3, K3⟩ := En.setB hg ext2 blk2 own3
    have KA := (K1.trans (KeepB.ext (Ext.push h1 (.cells #[.int .u8 196] 5)))).trans ((KeepB.app (g := g) (own.push _) fr2).trans K3)
    have qk2 := ((KeepB.app (g := g) (own.push _) fr2).trans K3).blk (push_blk (o' := .cells #[.int .u8 196] 5) q0) hqg (by decide)
    clear e0 e1 e2 e3 e4 e7 eL
    obtain ⟨e0, e1, e2, e3, e4, e7, eL⟩ := facts _ qk2
    have HJ := H3
    have KJ := KA
    have qJ := qk2
    obtain ⟨bj, hbj⟩ : ∃ y, y = b ++ [(196 : UInt8)] := ⟨_, rfl⟩
    rw [← hbj] at HJ hhd
    have hbl : bj.length ≤ 536870913 := by rw [hbj]; simp; omega
    clear hbj
    generalize setAt h2 ⟨g, 0, none⟩ (Value.slice a2 (b.length + 1) cc2) = hj at *
    clear H3 own3 own2 own fr2 ext2 blk2 hblk x0
  case' inr =>
    obtain ⟨bj, hbj⟩ : ∃ y, y = b := ⟨_, rfl⟩
    have hhd : headE x (b, ok) = (bj ++ [UInt8.ofNat x.op], ok) := by rw [hbj]; unfold headE; rw [if_neg (by simp [hw])]
    have hsz : (sizeE x = 1 ∨ sizeE x = 2) ∧ ((1 : Nat) : Int) = sizeE x := by unfold sizeE; rw [if_neg (by simp [hw])]; simp
    rw [hw] at e2
    simp (disch := first | omega | assumption) only [C.code_one_gos, vs, Go.Vc.vk, T.ts, ↓reduceIte, Nat.reduceEqDiff, reduceCtorEq, Nat.reduceLeDiff, Nat.reducePow, Int.reducePow, Int.reduceToNat, Nat.reduceAdd, e2]
    have HJ := H1
    have KJ := K1
    have qJ := q0
    rw [← hbj] at HJ
    have hbl : bj.length ≤ 536870913 := by rw [hbj]; omega
    clear hbj
    generalize h1 = hj at *
  all_goals
    clear e2
    obtain ⟨hsz1, hsz2⟩ := hsz
    have HW := HJ
    obtain ⟨hg, x0, vb, hblk, own⟩ := HW
    obtain ⟨ab, cb, rfl, _⟩ := own.slN.2
    have c0 : cellAt hj ⟨g, 0, none⟩ = some (.slice ab bj.length cb) := by rw [cellAt_of hblk]; rfl
    simp (disch := first | omega | assumption) only [C.code_one_gos, vs, Go.Vc.vk, T.ts, ↓reduceIte, Nat.reduceEqDiff, reduceCtorEq, Nat.reduceLeDiff, Nat.reducePow, Int.reducePow, Int.reduceToNat, Nat.reduceAdd, c0, e1]
    refine eff_lits T.slT_37 rfl rfl (by decide) ?_
    simp (disch := first | omega | assumption) only [C.code_one_gos, vs, Go.Vc.vk, T.ts, ↓reduceIte, Nat.reduceEqDiff, reduceCtorEq, Nat.reduceLeDiff, Nat.reducePow, Int.reducePow, Int.reduceToNat, Nat.reduceAdd]
    refine ⟨by rw [cellAt_of (push_blk hblk)]; rfl, ?_⟩
    refine eff_append_own (m := 1) T.slT_37 rfl rfl (own.push _) rfl (Rd_new (vs := [.int .u8 (x.op : Int)])) (by simp [oneCell]) (by omega) (by omega) (by have := x0.size; simp; omega) ?_
    intro v2 h2 own2 fr2 _
    have ext2 : Ext h0 h2 := Ext.app (x0.trans (Ext.push _ _)) fr2 (fun k hk => (own.lt k hk).1)
    have blk2 := Fr_blk fr2 (push_blk hblk) (Own_ne own hblk (by decide))
    obtain ⟨a2, cc2, rfl, _⟩ := own2.slN.2
    have c02 : cellAt h2 ⟨g, 0, none⟩ = some (.slice ab bj.length cb) := by rw [cellAt_of blk2]; rfl
    simp (disch := first | omega | assumption) only [C.code_one_gos, vs, Go.Vc.vk, T.ts, ↓reduceIte, Nat.reduceEqDiff, reduceCtorEq, Nat.reduceLeDiff, Nat.reducePow, Int.reducePow, Int.reduceToNat, Nat.reduceAdd]
    refine eff_store1_z T.zr_37 rfl rfl rfl rfl rfl c02 (by simp [frozenAt, blk2]) ?_
    have own3 : Own h2 h0.size 5 1 (.slice a2 (bj.length + 1) cc2) (bj ++ [UInt8.ofNat x.op]).length (bytesV (bj ++ [UInt8.ofNat x.op])) := Own_cast own2 (by simp) (by simp [bytesV]; omega)
    obtain ⟨H3, K3⟩ := En.setB hg ext2 blk2 own3
    have KA := (KJ.trans (KeepB.ext (Ext.push hj (.cells #[.int .u8 (x.op : Int)] 5)))).trans ((KeepB.app (g := g) (own.push _) fr2).trans K3)
    have qk2 := ((KeepB.app (g := g) (own.push _) fr2).trans K3).blk (push_blk (o' := .cells #[.int .u8 (x.op : Int)] 5) qJ) hqg (by decide)
    clear e0 e1 e3 e4 e7 eL
    have HJ' := (show ∀ H', En h0 H' g (bj ++ [UInt8.ofNat x.op]) ok → En h0 H' g (headE x (b, ok)).1 (headE x (b, ok)).2 from fun H' hh => by rw [hhd]; exact hh) _ H3
    have KJ := KA
    have qJ := qk2
    have hbl2 : (headE x (b, ok)).1.length ≤ 536870914 := by rw [hhd]; simp; omega
    clear hhd H3
    generalize setAt h2 ⟨g, 0, none⟩ (Value.slice a2 (bj.length + 1) cc2) = hj at *
    clear own3 own2 own fr2 ext2 blk2 hblk x0
    unfold oneE
    generalize headE x (b, ok) = hd at *
    have fx := facts _ qJ
    rcases hf with rfl | rfl | rfl | rfl | rfl | rfl | rfl | rfl | rfl | rfl | rfl | rfl | rfl | rfl
    · simp only [Nat.reduceEqDiff, ↓reduceIte]
      rw [show ((0 : Nat) : Int) = 0 from rfl]
      simp (disch := first | omega | assumption) only [C.code_one_gos, vs, Go.Vc.vk, T.ts, ↓reduceIte, Nat.reduceEqDiff, reduceCtorEq, Nat.reduceLeDiff, Nat.reducePow, Int.reducePow, Int.reduceToNat, Nat.reduceAdd, fx, Int.reduceEq, Int.reduceToNat, decide_true, decide_false]
      refine eff_call_of ?_
      simp (disch := first | omega | assumption) only [C.code_one_gos, vs, Go.Vc.vk, T.ts, ↓reduceIte, Nat.reduceEqDiff, reduceCtorEq, Nat.reduceLeDiff, Nat.reducePow, Int.reducePow, Int.reduceToNat, Nat.reduceAdd]
      refine (targets_any x (.slice ak x.keys.length ck) at7 x.tgts.length ct 0 ⟨_, _, _, rfl⟩ HJ').mono ?_
      intro v1 h1 hp1
      have H1 := hp1.1
      have K1 := hp1.2.1
      have KK1 := KJ.trans K1
      have qq1 := K1.blk qJ hqg (by decide)
      have fx := facts _ qq1
      simp (disch := first | omega | assumption) only [C.code_one_gos, vs, Go.Vc.vk, T.ts, ↓reduceIte, Nat.reduceEqDiff, reduceCtorEq, Nat.reduceLeDiff, Nat.reducePow, Int.reducePow, Int.reduceToNat, Nat.reduceAdd, fx, Int.reduceEq, Int.reduceToNat, decide_true, decide_false]
      exact ⟨H1, KK1⟩
    · simp only [Nat.reduceEqDiff, ↓reduceIte]
      rw [show ((2 : Nat) : Int) = 2 from rfl]
      simp (disch := first | omega | assumption) only [C.code_one_gos, vs, Go.Vc.vk, T.ts, ↓reduceIte, Nat.reduceEqDiff, reduceCtorEq, Nat.reduceLeDiff, Nat.reducePow, Int.reducePow, Int.reduceToNat, Nat.reduceAdd, fx, Int.reduceEq, Int.reduceToNat, decide_true, decide_false]
      refine eff_call_of ?_
      simp (disch := first | omega | assumption) only [C.code_one_gos, vs, Go.Vc.vk, T.ts, ↓reduceIte, Nat.reduceEqDiff, reduceCtorEq, Nat.reduceLeDiff, Nat.reducePow, Int.reducePow, Int.reduceToNat, Nat.reduceAdd]
      refine (targets_any x (.slice ak x.keys.length ck) at7 x.tgts.length ct 0 ⟨_, _, _, rfl⟩ HJ').mono ?_
      intro v1 h1 hp1
      have H1 := hp1.1
      have K1 := hp1.2.1
      have KK1 := KJ.trans K1
      have qq1 := K1.blk qJ hqg (by decide)
      have fx := facts _ qq1
      simp (disch := first | omega | assumption) only [C.code_one_gos, vs, Go.Vc.vk, T.ts, ↓reduceIte, Nat.reduceEqDiff, reduceCtorEq, Nat.reduceLeDiff, Nat.reducePow, Int.reducePow, Int.reduceToNat, Nat.reduceAdd, fx, Int.reduceEq, Int.reduceToNat, decide_true, decide_false]
      refine eff_call_of ?_
      simp (disch := first | omega | assumption) only [C.code_one_gos, vs, Go.Vc.vk, T.ts, ↓reduceIte, Nat.reduceEqDiff, reduceCtorEq, Nat.reduceLeDiff, Nat.reducePow, Int.reducePow, Int.reduceToNat, Nat.reduceAdd]
      refine (sig_any x.A 1 (by omega) (by first | omega | (simp only [List.length_append, bigS_len]; omega)) H1).mono ?_
      intro v2 h2 hp2
      have H2 := hp2.1
      have K2 := hp2.2
      have KK2 := KK1.trans K2
      have qq2 := K2.blk qq1 hqg (by decide)
      have fx := facts _ qq2
      simp (disch := first | omega | assumption) only [C.code_one_gos, vs, Go.Vc.vk, T.ts, ↓reduceIte, Nat.reduceEqDiff, reduceCtorEq, Nat.reduceLeDiff, Nat.reducePow, Int.reducePow, Int.reduceToNat, Nat.reduceAdd, fx, Int.reduceEq, Int.reduceToNat, decide_true, decide_false]
      exact ⟨H2, KK2⟩
    · simp only [Nat.reduceEqDiff, ↓reduceIte]
      rw [show ((3 : Nat) : Int) = 3 from rfl]
      simp (disch := first | omega | assumption) only [C.code_one_gos, vs, Go.Vc.vk, T.ts, ↓reduceIte, Nat.reduceEqDiff, reduceCtorEq, Nat.reduceLeDiff, Nat.reducePow, Int.reducePow, Int.reduceToNat, Nat.reduceAdd, fx, Int.reduceEq, Int.reduceToNat, decide_true, decide_false]
      refine eff_call_of ?_
      simp (disch := first | omega | assumption) only [C.code_one_gos, vs, Go.Vc.vk, T.ts, ↓reduceIte, Nat.reduceEqDiff, reduceCtorEq, Nat.reduceLeDiff, Nat.reducePow, Int.reducePow, Int.reduceToNat, Nat.reduceAdd]
      refine (targets_any x (.slice ak x.keys.length ck) at7 x.tgts.length ct 0 ⟨_, _, _, rfl⟩ HJ').mono ?_
      intro v1 h1 hp1
      have H1 := hp1.1
      have K1 := hp1.2.1
      have KK1 := KJ.trans K1
      have qq1 := K1.blk qJ hqg (by decide)
      have fx := facts _ qq1
      simp (disch := first | omega | assumption) only [C.code_one_gos, vs, Go.Vc.vk, T.ts, ↓reduceIte, Nat.reduceEqDiff, reduceCtorEq, Nat.reduceLeDiff, Nat.reducePow, Int.reducePow, Int.reduceToNat, Nat.reduceAdd, fx, Int.reduceEq, Int.reduceToNat, decide_true, decide_false]
      refine eff_call_of ?_
      simp (disch := first | omega | assumption) only [C.code_one_gos, vs, Go.Vc.vk, T.ts, ↓reduceIte, Nat.reduceEqDiff, reduceCtorEq, Nat.reduceLeDiff, Nat.reducePow, Int.reducePow, Int.reduceToNat, Nat.reduceAdd]
      refine (sig_any x.A 2 (by omega) (by first | omega | (simp only [List.length_append, bigS_len]; omega)) H1).mono ?_
      intro v2 h2 hp2
      have H2 := hp2.1
      have K2 := hp2.2
      have KK2 := KK1.trans K2
      have qq2 := K2.blk qq1 hqg (by decide)
      have fx := facts _ qq2
      simp (disch := first | omega | assumption) only [C.code_one_gos, vs, Go.Vc.vk, T.ts, ↓reduceIte, Nat.reduceEqDiff, reduceCtorEq, Nat.reduceLeDiff, Nat.reducePow, Int.reducePow, Int.reduceToNat, Nat.reduceAdd, fx, Int.reduceEq, Int.reduceToNat, decide_true, decide_false]
      exact ⟨H2, KK2⟩
    · simp only [Nat.reduceEqDiff, ↓reduceIte]
      rw [show ((4 : Nat) : Int) = 4 from rfl]
      simp (disch := first | omega | assumption) only [C.code_one_gos, vs, Go.Vc.vk, T.ts, ↓reduceIte, Nat.reduceEqDiff, reduceCtorEq, Nat.reduceLeDiff, Nat.reducePow, Int.reducePow, Int.reduceToNat, Nat.reduceAdd, fx, Int.reduceEq, Int.reduceToNat, decide_true, decide_false]
      refine eff_call_of ?_
      simp (disch := first | omega | assumption) only [C.code_one_gos, vs, Go.Vc.vk, T.ts, ↓reduceIte, Nat.reduceEqDiff, reduceCtorEq, Nat.reduceLeDiff, Nat.reducePow, Int.reducePow, Int.reduceToNat, Nat.reduceAdd]
      refine (targets_any x (.slice ak x.keys.length ck) at7 x.tgts.length ct 0 ⟨_, _, _, rfl⟩ HJ').mono ?_
      intro v1 h1 hp1
      have H1 := hp1.1
      have K1 := hp1.2.1
      have KK1 := KJ.trans K1
      have qq1 := K1.blk qJ hqg (by decide)
      have fx := facts _ qq1
      simp (disch := first | omega | assumption) only [C.code_one_gos, vs, Go.Vc.vk, T.ts, ↓reduceIte, Nat.reduceEqDiff, reduceCtorEq, Nat.reduceLeDiff, Nat.reducePow, Int.reducePow, Int.reduceToNat, Nat.reduceAdd, fx, Int.reduceEq, Int.reduceToNat, decide_true, decide_false]
      refine eff_call_of ?_
      simp (disch := first | omega | assumption) only [C.code_one_gos, vs, Go.Vc.vk, T.ts, ↓reduceIte, Nat.reduceEqDiff, reduceCtorEq, Nat.reduceLeDiff, Nat.reducePow, Int.reducePow, Int.reduceToNat, Nat.reduceAdd]
      refine (uns_any x.A 1 (by omega) (by first | omega | (simp only [List.length_append, bigS_len]; omega)) H1).mono ?_
      intro v2 h2 hp2
      have H2 := hp2.1
      have K2 := hp2.2
      have KK2 := KK1.trans K2
      have qq2 := K2.blk qq1 hqg (by decide)
      have fx := facts _ qq2
      simp (disch := first | omega | assumption) only [C.code_one_gos, vs, Go.Vc.vk, T.ts, ↓reduceIte, Nat.reduceEqDiff, reduceCtorEq, Nat.reduceLeDiff, Nat.reducePow, Int.reducePow, Int.reduceToNat, Nat.reduceAdd, fx, Int.reduceEq, Int.reduceToNat, decide_true, decide_false]
      exact ⟨H2, KK2⟩
    · simp only [Nat.reduceEqDiff, ↓reduceIte]
      rw [show ((5 : Nat) : Int) = 5 from rfl]
      simp (disch := first | omega | assumption) only [C.code_one_gos, vs, Go.Vc.vk, T.ts, ↓reduceIte, Nat.reduceEqDiff, reduceCtorEq, Nat.reduceLeDiff, Nat.reducePow, Int.reducePow, Int.reduceToNat, Nat.reduceAdd, fx, Int.reduceEq, Int.reduceToNat, decide_true, decide_false]
      refine eff_call_of ?_
      simp (disch := first | omega | assumption) only [C.code_one_gos, vs, Go.Vc.vk, T.ts, ↓reduceIte, Nat.reduceEqDiff, reduceCtorEq, Nat.reduceLeDiff, Nat.reducePow, Int.reducePow, Int.reduceToNat, Nat.reduceAdd]
      refine (targets_any x (.slice ak x.keys.length ck) at7 x.tgts.length ct 0 ⟨_, _, _, rfl⟩ HJ').mono ?_
      intro v1 h1 hp1
      have H1 := hp1.1
      have K1 := hp1.2.1
      have KK1 := KJ.trans K1
      have qq1 := K1.blk qJ hqg (by decide)
      have fx := facts _ qq1
      simp (disch := first | omega | assumption) only [C.code_one_gos, vs, Go.Vc.vk, T.ts, ↓reduceIte, Nat.reduceEqDiff, reduceCtorEq, Nat.reduceLeDiff, Nat.reducePow, Int.reducePow, Int.reduceToNat, Nat.reduceAdd, fx, Int.reduceEq, Int.reduceToNat, decide_true, decide_false]
      refine eff_call_of ?_
      simp (disch := first | omega | assumption) only [C.code_one_gos, vs, Go.Vc.vk, T.ts, ↓reduceIte, Nat.reduceEqDiff, reduceCtorEq, Nat.reduceLeDiff, Nat.reducePow, Int.reducePow, Int.reduceToNat, Nat.reduceAdd]
      refine (uns_any x.A 2 (by omega) (by first | omega | (simp only [List.length_append, bigS_len]; omega)) H1).mono ?_
      intro v2 h2 hp2
      have H2 := hp2.1
      have K2 := hp2.2
      have KK2 := KK1.trans K2
      have qq2 := K2.blk qq1 hqg (by decide)
      have fx := facts _ qq2
      simp (disch := first | omega | assumption) only [C.code_one_gos, vs, Go.Vc.vk, T.ts, ↓reduceIte, Nat.reduceEqDiff, reduceCtorEq, Nat.reduceLeDiff, Nat.reducePow, Int.reducePow, Int.reduceToNat, Nat.reduceAdd, fx, Int.reduceEq, Int.reduceToNat, decide_true, decide_false]
      exact ⟨H2, KK2⟩
    · simp only [Nat.reduceEqDiff, ↓reduceIte]
      rw [show ((6 : Nat) : Int) = 6 from rfl]
      simp (disch := first | omega | assumption) only [C.code_one_gos, vs, Go.Vc.vk, T.ts, ↓reduceIte, Nat.reduceEqDiff, reduceCtorEq, Nat.reduceLeDiff, Nat.reducePow, Int.reducePow, Int.reduceToNat, Nat.reduceAdd, fx, Int.reduceEq, Int.reduceToNat, decide_true, decide_false]
      refine eff_call_of ?_
      simp (disch := first | omega | assumption) only [C.code_one_gos, vs, Go.Vc.vk, T.ts, ↓reduceIte, Nat.reduceEqDiff, reduceCtorEq, Nat.reduceLeDiff, Nat.reducePow, Int.reducePow, Int.reduceToNat, Nat.reduceAdd]
      refine (targets_any x (.slice ak x.keys.length ck) at7 x.tgts.length ct 0 ⟨_, _, _, rfl⟩ HJ').mono ?_
      intro v1 h1 hp1
      have H1 := hp1.1
      have K1 := hp1.2.1
      have KK1 := KJ.trans K1
      have qq1 := K1.blk qJ hqg (by decide)
      have fx := facts _ qq1
      have hU := uns_any x.A (sizeE x) hsz1 (by first | omega | (simp only [List.length_append, bigS_len]; omega)) H1; rw [← hsz2] at hU
      simp (disch := first | omega | assumption) only [C.code_one_gos, vs, Go.Vc.vk, T.ts, ↓reduceIte, Nat.reduceEqDiff, reduceCtorEq, Nat.reduceLeDiff, Nat.reducePow, Int.reducePow, Int.reduceToNat, Nat.reduceAdd, fx, Int.reduceEq, Int.reduceToNat, decide_true, decide_false]
      refine eff_call_of ?_
      simp (disch := first | omega | assumption) only [C.code_one_gos, vs, Go.Vc.vk, T.ts, ↓reduceIte, Nat.reduceEqDiff, reduceCtorEq, Nat.reduceLeDiff, Nat.reducePow, Int.reducePow, Int.reduceToNat, Nat.reduceAdd]
      refine (hU).mono ?_
      intro v2 h2 hp2
      have H2 := hp2.1
      have K2 := hp2.2
      have KK2 := KK1.trans K2
      have qq2 := K2.blk qq1 hqg (by decide)
      have fx := facts _ qq2
      simp (disch := first | omega | assumption) only [C.code_one_gos, vs, Go.Vc.vk, T.ts, ↓reduceIte, Nat.reduceEqDiff, reduceCtorEq, Nat.reduceLeDiff, Nat.reducePow, Int.reducePow, Int.reduceToNat, Nat.reduceAdd, fx, Int.reduceEq, Int.reduceToNat, decide_true, decide_false]
      exact ⟨H2, KK2⟩
    · simp only [Nat.reduceEqDiff, ↓reduceIte]
      rw [show ((7 : Nat) : Int) = 7 from rfl]
      simp (disch := first | omega | assumption) only [C.code_one_gos, vs, Go.Vc.vk, T.ts, ↓reduceIte, Nat.reduceEqDiff, reduceCtorEq, Nat.reduceLeDiff, Nat.reducePow, Int.reducePow, Int.reduceToNat, Nat.reduceAdd, fx, Int.reduceEq, Int.reduceToNat, decide_true, decide_false]
      refine eff_call_of ?_
      simp (disch := first | omega | assumption) only [C.code_one_gos, vs, Go.Vc.vk, T.ts, ↓reduceIte, Nat.reduceEqDiff, reduceCtorEq, Nat.reduceLeDiff, Nat.reducePow, Int.reducePow, Int.reduceToNat, Nat.reduceAdd]
      refine (targets_any x (.slice ak x.keys.length ck) at7 x.tgts.length ct 0 ⟨_, _, _, rfl⟩ HJ').mono ?_
      intro v1 h1 hp1
      have H1 := hp1.1
      have K1 := hp1.2.1
      have KK1 := KJ.trans K1
      have qq1 := K1.blk qJ hqg (by decide)
      have fx := facts _ qq1
      have hU := uns_any x.A (sizeE x) hsz1 (by first | omega | (simp only [List.length_append, bigS_len]; omega)) H1; rw [← hsz2] at hU
      simp (disch := first | omega | assumption) only [C.code_one_gos, vs, Go.Vc.vk, T.ts, ↓reduceIte, Nat.reduceEqDiff, reduceCtorEq, Nat.reduceLeDiff, Nat.reducePow, Int.reducePow, Int.reduceToNat, Nat.reduceAdd, fx, Int.reduceEq, Int.reduceToNat, decide_true, decide_false]
      refine eff_call_of ?_
      simp (disch := first | omega | assumption) only [C.code_one_gos, vs, Go.Vc.vk, T.ts, ↓reduceIte, Nat.reduceEqDiff, reduceCtorEq, Nat.reduceLeDiff, Nat.reducePow, Int.reducePow, Int.reduceToNat, Nat.reduceAdd]
      refine (hU).mono ?_
      intro v2 h2 hp2
      have H2 := hp2.1
      have K2 := hp2.2
      have KK2 := KK1.trans K2
      have qq2 := K2.blk qq1 hqg (by decide)
      have fx := facts _ qq2
      have hU2 := sig_any x.B (sizeE x) (by omega) (by first | omega | (simp only [List.length_append, bigS_len]; omega)) H2; rw [← hsz2] at hU2
      simp (disch := first | omega | assumption) only [C.code_one_gos, vs, Go.Vc.vk, T.ts, ↓reduceIte, Nat.reduceEqDiff, reduceCtorEq, Nat.reduceLeDiff, Nat.reducePow, Int.reducePow, Int.reduceToNat, Nat.reduceAdd, fx, Int.reduceEq, Int.reduceToNat, decide_true, decide_false]
      refine eff_call_of ?_
      simp (disch := first | omega | assumption) only [C.code_one_gos, vs, Go.Vc.vk, T.ts, ↓reduceIte, Nat.reduceEqDiff, reduceCtorEq, Nat.reduceLeDiff, Nat.reducePow, Int.reducePow, Int.reduceToNat, Nat.reduceAdd]
      refine (hU2).mono ?_
      intro v3 h3 hp3
      have H3 := hp3.1
      have K3 := hp3.2
      have KK3 := KK2.trans K3
      have qq3 := K3.blk qq2 hqg (by decide)
      have fx := facts _ qq3
      simp (disch := first | omega | assumption) only [C.code_one_gos, vs, Go.Vc.vk, T.ts, ↓reduceIte, Nat.reduceEqDiff, reduceCtorEq, Nat.reduceLeDiff, Nat.reducePow, Int.reducePow, Int.reduceToNat, Nat.reduceAdd, fx, Int.reduceEq, Int.reduceToNat, decide_true, decide_false]
      exact ⟨H3, KK3⟩
    · simp only [Nat.reduceEqDiff, ↓reduceIte]
      rw [show ((8 : Nat) : Int) = 8 from rfl]
      simp (disch := first | omega | assumption) only [C.code_one_gos, vs, Go.Vc.vk, T.ts, ↓reduceIte, Nat.reduceEqDiff, reduceCtorEq, Nat.reduceLeDiff, Nat.reducePow, Int.reducePow, Int.reduceToNat, Nat.reduceAdd, fx, Int.reduceEq, Int.reduceToNat, decide_true, decide_false]
      refine eff_call_of ?_
      simp (disch := first | omega | assumption) only [C.code_one_gos, vs, Go.Vc.vk, T.ts, ↓reduceIte, Nat.reduceEqDiff, reduceCtorEq, Nat.reduceLeDiff, Nat.reducePow, Int.reducePow, Int.reduceToNat, Nat.reduceAdd]
      refine (targets_any x (.slice ak x.keys.length ck) at7 x.tgts.length ct 1 ⟨_, _, _, rfl⟩ HJ').mono ?_
      intro v1 h1 hp1
      have H1 := hp1.1
      have K1 := hp1.2.1
      have hv1 := hp1.2.2
      have KK1 := KJ.trans K1
      have qq1 := K1.blk qJ hqg (by decide)
      have fx := facts _ qq1
      unfold jmpE tgtS
      by_cases hc : (hd.2 && decide (x.tgts.length = 1)) = true
      case neg =>
        rw [if_neg hc]
        simp only [Bool.not_eq_true] at hc
        rw [hc] at H1 hv1 ⊢
        simp (disch := first | omega | assumption) only [C.code_one_gos, vs, Go.Vc.vk, T.ts, ↓reduceIte, Nat.reduceEqDiff, reduceCtorEq, Nat.reduceLeDiff, Nat.reducePow, Int.reducePow, Int.reduceToNat, Nat.reduceAdd, hv1]
        exact ⟨H1, KK1⟩
      rw [if_pos hc]
      rw [hc] at H1 hv1 ⊢
      have h1t : x.tgts.length = 1 := by simp at hc; exact hc.2
      obtain ⟨tb, to, tc, heqt, hcs, _⟩ := (ht.ext (by decide) H1.2.1).at (i := 0) (by omega)
      cases heqt
      have t0 : cellAt h1 ⟨tb, to, none⟩ = some (.int .i64 (x.tgts.getD 0 0)) := by
        have := hcs 0 (.int .i64 (x.tgts.getD 0 0)) (by simp [intsV, show 0 < x.tgts.length by omega])
        simpa using this
      have wr1 : IntKind.i64.wrap (x.tgts.getD 0 0 - x.at') = wr (x.tgts.getD 0 0 - x.at') := rfl
      have hpos : (0 : Int) < x.tgts.length := by omega
      simp (disch := first | omega | assumption) only [C.code_one_gos, vs, Go.Vc.vk, T.ts, ↓reduceIte, Nat.reduceEqDiff, reduceCtorEq, Nat.reduceLeDiff, Nat.reducePow, Int.reducePow, Int.reduceToNat, Nat.reduceAdd, fx, Int.reduceEq, Int.reduceToNat, decide_true, decide_false, hv1, t0, wr1, hpos, Nat.zero_mul]
      refine eff_call_of ?_
      simp (disch := first | omega | assumption) only [C.code_one_gos, vs, Go.Vc.vk, T.ts, ↓reduceIte, Nat.reduceEqDiff, reduceCtorEq, Nat.reduceLeDiff, Nat.reducePow, Int.reducePow, Int.reduceToNat, Nat.reduceAdd]
      refine (sig_any _ 2 (by omega) (by first | omega | (simp only [List.length_append, bigS_len]; omega)) H1).mono ?_
      intro v2 h2 hp2
      have H2 := hp2.1
      have K2 := hp2.2
      have KK2 := KK1.trans K2
      have qq2 := K2.blk qq1 hqg (by decide)
      have fx := facts _ qq2
      simp (disch := first | omega | assumption) only [C.code_one_gos, vs, Go.Vc.vk, T.ts, ↓reduceIte, Nat.reduceEqDiff, reduceCtorEq, Nat.reduceLeDiff, Nat.reducePow, Int.reducePow, Int.reduceToNat, Nat.reduceAdd, fx, Int.reduceEq, Int.reduceToNat, decide_true, decide_false]
      exact ⟨H2, KK2⟩
    · simp only [Nat.reduceEqDiff, ↓reduceIte]
      rw [show ((9 : Nat) : Int) = 9 from rfl]
      simp (disch := first | omega | assumption) only [C.code_one_gos, vs, Go.Vc.vk, T.ts, ↓reduceIte, Nat.reduceEqDiff, reduceCtorEq, Nat.reduceLeDiff, Nat.reducePow, Int.reducePow, Int.reduceToNat, Nat.reduceAdd, fx, Int.reduceEq, Int.reduceToNat, decide_true, decide_false]
      refine eff_call_of ?_
      simp (disch := first | omega | assumption) only [C.code_one_gos, vs, Go.Vc.vk, T.ts, ↓reduceIte, Nat.reduceEqDiff, reduceCtorEq, Nat.reduceLeDiff, Nat.reducePow, Int.reducePow, Int.reduceToNat, Nat.reduceAdd]
      refine (targets_any x (.slice ak x.keys.length ck) at7 x.tgts.length ct 1 ⟨_, _, _, rfl⟩ HJ').mono ?_
      intro v1 h1 hp1
      have H1 := hp1.1
      have K1 := hp1.2.1
      have hv1 := hp1.2.2
      have KK1 := KJ.trans K1
      have qq1 := K1.blk qJ hqg (by decide)
      have fx := facts _ qq1
      unfold jmpE tgtS
      by_cases hc : (hd.2 && decide (x.tgts.length = 1)) = true
      case neg =>
        rw [if_neg hc]
        simp only [Bool.not_eq_true] at hc
        rw [hc] at H1 hv1 ⊢
        simp (disch := first | omega | assumption) only [C.code_one_gos, vs, Go.Vc.vk, T.ts, ↓reduceIte, Nat.reduceEqDiff, reduceCtorEq, Nat.reduceLeDiff, Nat.reducePow, Int.reducePow, Int.reduceToNat, Nat.reduceAdd, hv1]
        exact ⟨H1, KK1⟩
      rw [if_pos hc]
      rw [hc] at H1 hv1 ⊢
      have h1t : x.tgts.length = 1 := by simp at hc; exact hc.2
      obtain ⟨tb, to, tc, heqt, hcs, _⟩ := (ht.ext (by decide) H1.2.1).at (i := 0) (by omega)
      cases heqt
      have t0 : cellAt h1 ⟨tb, to, none⟩ = some (.int .i64 (x.tgts.getD 0 0)) := by
        have := hcs 0 (.int .i64 (x.tgts.getD 0 0)) (by simp [intsV, show 0 < x.tgts.length by omega])
        simpa using this
      have wr1 : IntKind.i64.wrap (x.tgts.getD 0 0 - x.at') = wr (x.tgts.getD 0 0 - x.at') := rfl
      have hpos : (0 : Int) < x.tgts.length := by omega
      simp (disch := first | omega | assumption) only [C.code_one_gos, vs, Go.Vc.vk, T.ts, ↓reduceIte, Nat.reduceEqDiff, reduceCtorEq, Nat.reduceLeDiff, Nat.reducePow, Int.reducePow, Int.reduceToNat, Nat.reduceAdd, fx, Int.reduceEq, Int.reduceToNat, decide_true, decide_false, hv1, t0, wr1, hpos, Nat.zero_mul]
      refine eff_call_of ?_
      simp (disch := first | omega | assumption) only [C.code_one_gos, vs, Go.Vc.vk, T.ts, ↓reduceIte, Nat.reduceEqDiff, reduceCtorEq, Nat.reduceLeDiff, Nat.reducePow, Int.reducePow, Int.reduceToNat, Nat.reduceAdd]
      refine (sig_any _ 4 (by omega) (by first | omega | (simp only [List.length_append, bigS_len]; omega)) H1).mono ?_
      intro v2 h2 hp2
      have H2 := hp2.1
      have K2 := hp2.2
      have KK2 := KK1.trans K2
      have qq2 := K2.blk qq1 hqg (by decide)
      have fx := facts _ qq2
      simp (disch := first | omega | assumption) only [C.code_one_gos, vs, Go.Vc.vk, T.ts, ↓reduceIte, Nat.reduceEqDiff, reduceCtorEq, Nat.reduceLeDiff, Nat.reducePow, Int.reducePow, Int.reduceToNat, Nat.reduceAdd, fx, Int.reduceEq, Int.reduceToNat, decide_true, decide_false]
      exact ⟨H2, KK2⟩
    · simp only [Nat.reduceEqDiff, ↓reduceIte]
      rw [show ((10 : Nat) : Int) = 10 from rfl]
      simp (disch := first | omega | assumption) only [C.code_one_gos, vs, Go.Vc.vk, T.ts, ↓reduceIte, Nat.reduceEqDiff, reduceCtorEq, Nat.reduceLeDiff, Nat.reducePow, Int.reducePow, Int.reduceToNat, Nat.reduceAdd, fx, Int.reduceEq, Int.reduceToNat, decide_true, decide_false]
      refine eff_call_of ?_
      simp (disch := first | omega | assumption) only [C.code_one_gos, vs, Go.Vc.vk, T.ts, ↓reduceIte, Nat.reduceEqDiff, reduceCtorEq, Nat.reduceLeDiff, Nat.reducePow, Int.reducePow, Int.reduceToNat, Nat.reduceAdd]
      refine (choice_any x 10 hd _ _ (by omega) hx hk ht htc hkl htl (by omega) HJ').mono ?_
      intro v1 h1 hp1
      have H1 := hp1.1
      have K1 := hp1.2
      have KK1 := KJ.trans K1
      have qq1 := K1.blk qJ hqg (by decide)
      have fx := facts _ qq1
      simp (disch := first | omega | assumption) only [C.code_one_gos, vs, Go.Vc.vk, T.ts, ↓reduceIte, Nat.reduceEqDiff, reduceCtorEq, Nat.reduceLeDiff, Nat.reducePow, Int.reducePow, Int.reduceToNat, Nat.reduceAdd, fx, Int.reduceEq, Int.reduceToNat, decide_true, decide_false]
      exact ⟨H1, KK1⟩
    · simp only [Nat.reduceEqDiff, ↓reduceIte]
      rw [show ((11 : Nat) : Int) = 11 from rfl]
      simp (disch := first | omega | assumption) only [C.code_one_gos, vs, Go.Vc.vk, T.ts, ↓reduceIte, Nat.reduceEqDiff, reduceCtorEq, Nat.reduceLeDiff, Nat.reducePow, Int.reducePow, Int.reduceToNat, Nat.reduceAdd, fx, Int.reduceEq, Int.reduceToNat, decide_true, decide_false]
      refine eff_call_of ?_
      simp (disch := first | omega | assumption) only [C.code_one_gos, vs, Go.Vc.vk, T.ts, ↓reduceIte, Nat.reduceEqDiff, reduceCtorEq, Nat.reduceLeDiff, Nat.reducePow, Int.reducePow, Int.reduceToNat, Nat.reduceAdd]
      refine (choice_any x 11 hd _ _ (by omega) hx hk ht htc hkl htl (by omega) HJ').mono ?_
      intro v1 h1 hp1
      have H1 := hp1.1
      have K1 := hp1.2
      have KK1 := KJ.trans K1
      have qq1 := K1.blk qJ hqg (by decide)
      have fx := facts _ qq1
      simp (disch := first | omega | assumption) only [C.code_one_gos, vs, Go.Vc.vk, T.ts, ↓reduceIte, Nat.reduceEqDiff, reduceCtorEq, Nat.reduceLeDiff, Nat.reducePow, Int.reducePow, Int.reduceToNat, Nat.reduceAdd, fx, Int.reduceEq, Int.reduceToNat, decide_true, decide_false]
      exact ⟨H1, KK1⟩
    · simp only [Nat.reduceEqDiff, ↓reduceIte]
      rw [show ((12 : Nat) : Int) = 12 from rfl]
      simp (disch := first | omega | assumption) only [C.code_one_gos, vs, Go.Vc.vk, T.ts, ↓reduceIte, Nat.reduceEqDiff, reduceCtorEq, Nat.reduceLeDiff, Nat.reducePow, Int.reducePow, Int.reduceToNat, Nat.reduceAdd, fx, Int.reduceEq, Int.reduceToNat, decide_true, decide_false]
      refine eff_call_of ?_
      simp (disch := first | omega | assumption) only [C.code_one_gos, vs, Go.Vc.vk, T.ts, ↓reduceIte, Nat.reduceEqDiff, reduceCtorEq, Nat.reduceLeDiff, Nat.reducePow, Int.reducePow, Int.reduceToNat, Nat.reduceAdd]
      refine (targets_any x (.slice ak x.keys.length ck) at7 x.tgts.length ct 0 ⟨_, _, _, rfl⟩ HJ').mono ?_
      intro v1 h1 hp1
      have H1 := hp1.1
      have K1 := hp1.2.1
      have KK1 := KJ.trans K1
      have qq1 := K1.blk qJ hqg (by decide)
      have fx := facts _ qq1
      simp (disch := first | omega | assumption) only [C.code_one_gos, vs, Go.Vc.vk, T.ts, ↓reduceIte, Nat.reduceEqDiff, reduceCtorEq, Nat.reduceLeDiff, Nat.reducePow, Int.reducePow, Int.reduceToNat, Nat.reduceAdd, fx, Int.reduceEq, Int.reduceToNat, decide_true, decide_false]
      refine eff_call_of ?_
      simp (disch := first | omega | assumption) only [C.code_one_gos, vs, Go.Vc.vk, T.ts, ↓reduceIte, Nat.reduceEqDiff, reduceCtorEq, Nat.reduceLeDiff, Nat.reducePow, Int.reducePow, Int.reduceToNat, Nat.reduceAdd]
      refine (uns_any x.A 2 (by omega) (by first | omega | (simp only [List.length_append, bigS_len]; omega)) H1).mono ?_
      intro v2 h2 hp2
      have H2 := hp2.1
      have K2 := hp2.2
      have KK2 := KK1.trans K2
      have qq2 := K2.blk qq1 hqg (by decide)
      have fx := facts _ qq2
      simp (disch := first | omega | assumption) only [C.code_one_gos, vs, Go.Vc.vk, T.ts, ↓reduceIte, Nat.reduceEqDiff, reduceCtorEq, Nat.reduceLeDiff, Nat.reducePow, Int.reducePow, Int.reduceToNat, Nat.reduceAdd, fx, Int.reduceEq, Int.reduceToNat, decide_true, decide_false]
      refine eff_call_of ?_
      simp (disch := first | omega | assumption) only [C.code_one_gos, vs, Go.Vc.vk, T.ts, ↓reduceIte, Nat.reduceEqDiff, reduceCtorEq, Nat.reduceLeDiff, Nat.reducePow, Int.reducePow, Int.reduceToNat, Nat.reduceAdd]
      refine (put_any x.B 1 255 1 (by omega) (by first | omega | (simp only [List.length_append, bigS_len]; omega)) H2).mono ?_
      intro v3 h3 hp3
      have H3 := hp3.1
      have K3 := hp3.2
      have KK3 := KK2.trans K3
      have qq3 := K3.blk qq2 hqg (by decide)
      have fx := facts _ qq3
      have hlz : (putX (unsS (tgtS hd x 0) x.A 2) x.B 1 1 255).1.length ≤ 536870920 := by simp only [putX, unsS, putS_len, tgtS]; omega
      have HZ : En h0 h3 g (putX (unsS (tgtS hd x 0) x.A 2) x.B 1 1 255).1 (putX (unsS (tgtS hd x 0) x.A 2) x.B 1 1 255).2 := H3
      clear H1 H2 H3
      generalize putX (unsS (tgtS hd x 0) x.A 2) x.B 1 1 255 = sz at *
      obtain ⟨bz, okz⟩ := sz
      simp only at HZ hlz ⊢
      have HW := HZ
      obtain ⟨hg, x0, vb, hblk, own⟩ := HW
      obtain ⟨ab, cb, rfl, _⟩ := own.slN.2
      have c0 : cellAt h3 ⟨g, 0, none⟩ = some (.slice ab bz.length cb) := by rw [cellAt_of hblk]; rfl
      simp (disch := first | omega | assumption) only [C.code_one_gos, vs, Go.Vc.vk, T.ts, ↓reduceIte, Nat.reduceEqDiff, reduceCtorEq, Nat.reduceLeDiff, Nat.reducePow, Int.reducePow, Int.reduceToNat, Nat.reduceAdd, c0]
      refine eff_lits T.slT_37 rfl rfl (by decide) ?_
      simp (disch := first | omega | assumption) only [C.code_one_gos, vs, Go.Vc.vk, T.ts, ↓reduceIte, Nat.reduceEqDiff, reduceCtorEq, Nat.reduceLeDiff, Nat.reducePow, Int.reducePow, Int.reduceToNat, Nat.reduceAdd]
      refine eff_append_own (m := 1) T.slT_37 rfl rfl (own.push _) rfl (Rd_new (vs := [.int .u8 0])) (by simp [oneCell]) (by omega) (by omega) (by have := x0.size; simp; omega) ?_
      intro v2 h2 own2 fr2 _
      have ext2 : Ext h0 h2 := Ext.app (x0.trans (Ext.push _ _)) fr2 (fun k hk => (own.lt k hk).1)
      have blk2 := Fr_blk fr2 (push_blk hblk) (Own_ne own hblk (by decide))
      obtain ⟨a2, cc2, rfl, _⟩ := own2.slN.2
      have c02 : cellAt h2 ⟨g, 0, none⟩ = some (.slice ab bz.length cb) := by rw [cellAt_of blk2]; rfl
      simp (disch := first | omega | assumption) only [C.code_one_gos, vs, Go.Vc.vk, T.ts, ↓reduceIte, Nat.reduceEqDiff, reduceCtorEq, Nat.reduceLeDiff, Nat.reducePow, Int.reducePow, Int.reduceToNat, Nat.reduceAdd]
      refine eff_store1_z T.zr_37 rfl rfl rfl rfl rfl c02 (by simp [frozenAt, blk2]) ?_
      have own3 : Own h2 h0.size 5 1 (.slice a2 (bz.length + 1) cc2) (bz ++ [0]).length (bytesV (bz ++ [0])) := Own_cast own2 (by simp) (by simp [bytesV])
      obtain ⟨H3, K3⟩ := En.setB hg ext2 blk2 own3
      have KA := (KK3.trans (KeepB.ext (Ext.push h3 (.cells #[.int .u8 0] 5)))).trans ((KeepB.app (g := g) (own.push _) fr2).trans K3)
      have qk2 := ((KeepB.app (g := g) (own.push _) fr2).trans K3).blk (push_blk (o' := .cells #[.int .u8 0] 5) qq3) hqg (by decide)
      simp (disch := first | omega | assumption) only [C.code_one_gos, vs, Go.Vc.vk, T.ts, ↓reduceIte, Nat.reduceEqDiff, reduceCtorEq, Nat.reduceLeDiff, Nat.reducePow, Int.reducePow, Int.reduceToNat, Nat.reduceAdd]
      exact ⟨H3, KA⟩
    · simp only [Nat.reduceEqDiff, ↓reduceIte]
      rw [show ((13 : Nat) : Int) = 13 from rfl]
      simp (disch := first | omega | assumption) only [C.code_one_gos, vs, Go.Vc.vk, T.ts, ↓reduceIte, Nat.reduceEqDiff, reduceCtorEq, Nat.reduceLeDiff, Nat.reducePow, Int.reducePow, Int.reduceToNat, Nat.reduceAdd, fx, Int.reduceEq, Int.reduceToNat, decide_true, decide_false]
      refine eff_call_of ?_
      simp (disch := first | omega | assumption) only [C.code_one_gos, vs, Go.Vc.vk, T.ts, ↓reduceIte, Nat.reduceEqDiff, reduceCtorEq, Nat.reduceLeDiff, Nat.reducePow, Int.reducePow, Int.reduceToNat, Nat.reduceAdd]
      refine (targets_any x (.slice ak x.keys.length ck) at7 x.tgts.length ct 0 ⟨_, _, _, rfl⟩ HJ').mono ?_
      intro v1 h1 hp1
      have H1 := hp1.1
      have K1 := hp1.2.1
      have KK1 := KJ.trans K1
      have qq1 := K1.blk qJ hqg (by decide)
      have fx := facts _ qq1
      simp (disch := first | omega | assumption) only [C.code_one_gos, vs, Go.Vc.vk, T.ts, ↓reduceIte, Nat.reduceEqDiff, reduceCtorEq, Nat.reduceLeDiff, Nat.reducePow, Int.reducePow, Int.reduceToNat, Nat.reduceAdd, fx, Int.reduceEq, Int.reduceToNat, decide_true, decide_false]
      refine eff_call_of ?_
      simp (disch := first | omega | assumption) only [C.code_one_gos, vs, Go.Vc.vk, T.ts, ↓reduceIte, Nat.reduceEqDiff, reduceCtorEq, Nat.reduceLeDiff, Nat.reducePow, Int.reducePow, Int.reduceToNat, Nat.reduceAdd]
      refine (put_any x.A 4 11 1 (by omega) (by first | omega | (simp only [List.length_append, bigS_len]; omega)) H1).mono ?_
      intro v2 h2 hp2
      have H2 := hp2.1
      have K2 := hp2.2
      have KK2 := KK1.trans K2
      have qq2 := K2.blk qq1 hqg (by decide)
      have fx := facts _ qq2
      simp (disch := first | omega | assumption) only [C.code_one_gos, vs, Go.Vc.vk, T.ts, ↓reduceIte, Nat.reduceEqDiff, reduceCtorEq, Nat.reduceLeDiff, Nat.reducePow, Int.reducePow, Int.reduceToNat, Nat.reduceAdd, fx, Int.reduceEq, Int.reduceToNat, decide_true, decide_false]
      exact ⟨H2, KK2⟩
    · simp only [Nat.reduceEqDiff, ↓reduceIte]
      rw [show ((14 : Nat) : Int) = 14 from rfl]
      simp (disch := first | omega | assumption) only [C.code_one_gos, vs, Go.Vc.vk, T.ts, ↓reduceIte, Nat.reduceEqDiff, reduceCtorEq, Nat.reduceLeDiff, Nat.reducePow, Int.reducePow, Int.reduceToNat, Nat.reduceAdd, fx, Int.reduceEq, Int.reduceToNat, decide_true, decide_false]
      refine eff_call_of ?_
      simp (disch := first | omega | assumption) only [C.code_one_gos, vs, Go.Vc.vk, T.ts, ↓reduceIte, Nat.reduceEqDiff, reduceCtorEq, Nat.reduceLeDiff, Nat.reducePow, Int.reducePow, Int.reduceToNat, Nat.reduceAdd]
      refine (targets_any x (.slice ak x.keys.length ck) at7 x.tgts.length ct 0 ⟨_, _, _, rfl⟩ HJ').mono ?_
      intro v1 h1 hp1
      have H1 := hp1.1
      have K1 := hp1.2.1
      have KK1 := KJ.trans K1
      have qq1 := K1.blk qJ hqg (by decide)
      have fx := facts _ qq1
      simp (disch := first | omega | assumption) only [C.code_one_gos, vs, Go.Vc.vk, T.ts, ↓reduceIte, Nat.reduceEqDiff, reduceCtorEq, Nat.reduceLeDiff, Nat.reducePow, Int.reducePow, Int.reduceToNat, Nat.reduceAdd, fx, Int.reduceEq, Int.reduceToNat, decide_true, decide_false]
      refine eff_call_of ?_
      simp (disch := first | omega | assumption) only [C.code_one_gos, vs, Go.Vc.vk, T.ts, ↓reduceIte, Nat.reduceEqDiff, reduceCtorEq, Nat.reduceLeDiff, Nat.reducePow, Int.reducePow, Int.reduceToNat, Nat.reduceAdd]
      refine (uns_any x.A 2 (by omega) (by first | omega | (simp only [List.length_append, bigS_len]; omega)) H1).mono ?_
      intro v2 h2 hp2
      have H2 := hp2.1
      have K2 := hp2.2
      have KK2 := KK1.trans K2
      have qq2 := K2.blk qq1 hqg (by decide)
      have fx := facts _ qq2
      simp (disch := first | omega | assumption) only [C.code_one_gos, vs, Go.Vc.vk, T.ts, ↓reduceIte, Nat.reduceEqDiff, reduceCtorEq, Nat.reduceLeDiff, Nat.reducePow, Int.reducePow, Int.reduceToNat, Nat.reduceAdd, fx, Int.reduceEq, Int.reduceToNat, decide_true, decide_false]
      refine eff_call_of ?_
      simp (disch := first | omega | assumption) only [C.code_one_gos, vs, Go.Vc.vk, T.ts, ↓reduceIte, Nat.reduceEqDiff, reduceCtorEq, Nat.reduceLeDiff, Nat.reducePow, Int.reducePow, Int.reduceToNat, Nat.reduceAdd]
      refine (put_any x.B 1 255 1 (by omega) (by first | omega | (simp only [List.length_append, bigS_len]; omega)) H2).mono ?_
      intro v3 h3 hp3
      have H3 := hp3.1
      have K3 := hp3.2
      have KK3 := KK2.trans K3
      have qq3 := K3.blk qq2 hqg (by decide)
      have fx := facts _ qq3
      simp (disch := first | omega | assumption) only [C.code_one_gos, vs, Go.Vc.vk, T.ts, ↓reduceIte, Nat.reduceEqDiff, reduceCtorEq, Nat.reduceLeDiff, Nat.reducePow, Int.reducePow, Int.reduceToNat, Nat.reduceAdd, fx, Int.reduceEq, Int.reduceToNat, decide_true, decide_false]
      exact ⟨H3, KK3⟩
end
end Go.Proofs.Ytjpcpkhegjndeaa

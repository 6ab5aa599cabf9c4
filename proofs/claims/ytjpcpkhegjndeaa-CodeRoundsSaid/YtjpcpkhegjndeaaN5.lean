/- The encoder of instructions: switches. -/
import Derived.Test.YtjpcpkhegjndeaaN2
namespace Go.Proofs.Ytjpcpkhegjndeaa
open Go.Vc
set_option maxRecDepth 100000
set_option linter.unusedSimpArgs false
set_option linter.unusedVariables false

abbrev ES := List UInt8 × Bool
def wr (x : Int) : Int := IntKind.i64.wrap x
def putS (s : ES) (x : Int) (n : Nat) (c : Bool) : ES := (s.1 ++ bigS (atU x) n, s.2 && c)
def sgnS (s : ES) (x : Int) (n : Nat) : ES := putS s x n (okI x n)
def unsS (s : ES) (x : Int) (n : Nat) : ES := putS s x n (okU x n)
def padS (b : List UInt8) : List UInt8 := b ++ List.replicate ((4 - b.length % 4) % 4) 0
def ordK (keys : List Int) (k : Nat) : Bool := decide (k = 0) || decide (keys.getD (k - 1) 0 < keys.getD k 0)
def rowE (f : Nat) (keys : List Int) (at' : Int) : List Int → Nat → ES → ES
  | [], _, s => s
  | t :: r, k, s => rowE f keys at' r (k + 1) (sgnS (if f = 11 then sgnS (s.1, s.2 && ordK keys k) (keys.getD k 0) 4 else s) (wr (t - at')) 4)
def choE (x : In) (f : Nat) (s : ES) : ES :=
  if x.tgts.length = 0 ∨ (f = 10 ∧ x.tgts.length = 1) ∨ (f = 11 ∧ x.tgts.length ≠ x.keys.length + 1) then (padS s.1, false)
  else
    let s1 := sgnS (padS s.1, s.2) (wr (x.tgts.getD 0 0 - x.at')) 4
    let s2 := if f = 10 then sgnS (sgnS s1 x.low 4) (wr (wr (x.low + (x.tgts.length - 1 : Nat)) - 1)) 4 else sgnS s1 (x.tgts.length - 1 : Nat) 4
    rowE f x.keys x.at' (x.tgts.drop 1) 0 s2
theorem putS_len (s : ES) (x : Int) (n : Nat) (c : Bool) : (putS s x n c).1.length = s.1.length + n := by simp [putS, bigS_len]
theorem padS_len (b : List UInt8) : (padS b).length ≤ b.length + 3 := by simp [padS]; omega
theorem rowE_len (f : Nat) (keys : List Int) (at' : Int) : ∀ (l : List Int) (k : Nat) (s : ES), (rowE f keys at' l k s).1.length ≤ s.1.length + 8 * l.length := by
  intro l
  induction l with
  | nil => intro k s; simp [rowE]
  | cons t r ih =>
    intro k s
    rw [rowE]
    refine Nat.le_trans (ih _ _) ?_
    simp only [sgnS, putS_len, List.length_cons]
    split <;> (try simp only [putS_len]) <;> omega

def enV (x : In) (vk vt : Value) : Array Value := (InV x vk vt).toArray
section
variable {h0 h : Heap} {g : Nat}
set_option maxHeartbeats 4000000 in
theorem choice_any (x : In) (f : Nat) (s : ES) (vk vt : Value) (hf : f = 10 ∨ f = 11) (hx : x.Fit) (hk : SlN h0 1 vk x.keys.length (intsV x.keys)) (ht : SlN h0 1 vt x.tgts.length (intsV x.tgts)) (htc : capOk vt)
    (hkl : x.keys.length ≤ 1073741824) (htl : x.tgts.length ≤ 1073741824) (hb : s.1.length ≤ 1073741824) (H : En h0 h g s.1 s.2) :
    HCalls Try.prog 31 #[.pointer (some ⟨g, 0, none⟩), .agg (enV x vk vt), .int .i64 f] h fun _ h' => En h0 h' g (choE x f s).1 (choE x f s).2 ∧ KeepB h h' g := by
  refine C.code_choice_calls (args := [.pointer (some ⟨g, 0, none⟩), .agg (enV x vk vt), .int .i64 f]) rfl ?_
  have hk' := hk
  have ht' := ht
  obtain ⟨_, ak, ck, rfl, _⟩ := hk'
  obtain ⟨_, at7, ct, rfl, _⟩ := ht'
  have hcap : x.tgts.length ≤ ct := htc
  simp only [enV, InV]
  have hgs := H.lt
  simp (disch := first | omega | assumption) only [C.code_choice_gos, vs, Go.Vc.vk, T.ts, ↓reduceIte, Nat.reduceEqDiff, reduceCtorEq, Nat.reduceLeDiff, Nat.reducePow, Int.reducePow, Int.reduceToNat, Nat.reduceAdd]
  refine eff_box ?_
  have E := Ext.push h (.cells #[.int .i64 x.at', .int .u8 (x.op : Int), .bool x.wide, .int .i64 x.A, .int .i64 x.B, .int .i64 x.low, .slice ak x.keys.length ck, .slice at7 x.tgts.length ct] 35)
  have H1 := H.ext E
  have K1 : KeepB h _ g := KeepB.ext E
  have q0 : (h.push (.cells #[.int .i64 x.at', .int .u8 (x.op : Int), .bool x.wide, .int .i64 x.A, .int .i64 x.B, .int .i64 x.low, .slice ak x.keys.length ck, .slice at7 x.tgts.length ct] 35))[h.size]? = some (.cells #[.int .i64 x.at', .int .u8 (x.op : Int), .bool x.wide, .int .i64 x.A, .int .i64 x.B, .int .i64 x.low, .slice ak x.keys.length ck, .slice at7 x.tgts.length ct] 35 (0, 0)) := by simp
  have hqg : h.size ≠ g := by omega
  simp (disch := first | omega | assumption) only [C.code_choice_gos, vs, Go.Vc.vk, T.ts, ↓reduceIte, Nat.reduceEqDiff, reduceCtorEq, Nat.reduceLeDiff, Nat.reducePow, Int.reducePow, Int.reduceToNat, Nat.reduceAdd]
  generalize h.push (.cells #[.int .i64 x.at', .int .u8 (x.op : Int), .bool x.wide, .int .i64 x.A, .int .i64 x.B, .int .i64 x.low, .slice ak x.keys.length ck, .slice at7 x.tgts.length ct] 35) = h1 at *
  obtain ⟨q, hq⟩ : ∃ y, y = h.size := ⟨_, rfl⟩
  rw [← hq] at q0 hqg ⊢
  refine loop_intro [0, 2, 4] (fun m ρ hc => ∃ i : Nat, m = (4 - s.1.length % 4) % 4 - i ∧ i ≤ (4 - s.1.length % 4) % 4 ∧ ρ = [(0, .pointer (some ⟨g, 0, none⟩)), (2, .int .i64 f), (4, .pointer (some ⟨q, 0, none⟩))] ∧
      En h0 hc g (s.1 ++ List.replicate i 0) s.2 ∧ KeepB h hc g ∧ hc[q]? = some (.cells #[.int .i64 x.at', .int .u8 (x.op : Int), .bool x.wide, .int .i64 x.A, .int .i64 x.B, .int .i64 x.low, .slice ak x.keys.length ck, .slice at7 x.tgts.length ct] 35 (0, 0))) ?_ ?_
  · simp (disch := first | omega | assumption) only [C.code_choice_gos, vs, Go.Vc.vk, T.ts, ↓reduceIte, Nat.reduceEqDiff, reduceCtorEq, Nat.reduceLeDiff, Nat.reducePow, Int.reducePow, Int.reduceToNat, Nat.reduceAdd]
    exact ⟨_, 0, rfl, Nat.zero_le _, by simpa using H1, K1, q0⟩
  rintro m ρ hc ⟨i, rfl, hi, rfl, HW, HK, qk⟩
  have HW0 := HW
  obtain ⟨hg, x0, vb, hblk, own⟩ := HW
  have hll : (s.1 ++ List.replicate i (0 : UInt8)).length = s.1.length + i := by simp
  rw [hll] at own
  obtain ⟨ab, cb, rfl, _⟩ := own.slN.2
  have c0 : cellAt hc ⟨g, 0, none⟩ = some (.slice ab (s.1.length + i) cb) := by rw [cellAt_of hblk]; rfl
  by_cases hmod : (s.1.length + i) % 4 = 0
  case neg =>
    have hmod' : ¬ ((s.1.length + i : Nat) : Int) % 4 = 0 := by omega
    have hilt : i < (4 - s.1.length % 4) % 4 := by omega
    simp (disch := first | omega | assumption) only [C.code_choice_gos, vs, Go.Vc.vk, T.ts, ↓reduceIte, Nat.reduceEqDiff, reduceCtorEq, Nat.reduceLeDiff, Nat.reducePow, Int.reducePow, Int.reduceToNat, Nat.reduceAdd, c0, eq_false hmod']
    refine eff_lits T.slT_37 rfl rfl (by decide) ?_
    simp (disch := first | omega | assumption) only [C.code_choice_gos, vs, Go.Vc.vk, T.ts, ↓reduceIte, Nat.reduceEqDiff, reduceCtorEq, Nat.reduceLeDiff, Nat.reducePow, Int.reducePow, Int.reduceToNat, Nat.reduceAdd]
    refine eff_append_own (m := 1) T.slT_37 rfl rfl (own.push _) rfl (Rd_new (vs := [.int .u8 0])) (by simp [oneCell]) (by omega) (by omega) (by have := x0.size; simp; omega) ?_
    intro v2 h2 own2 fr2 _
    have ext2 : Ext h0 h2 := Ext.app (x0.trans (Ext.push _ _)) fr2 (fun k hk => (own.lt k hk).1)
    have blk2 := Fr_blk fr2 (push_blk hblk) (Own_ne own hblk (by decide))
    obtain ⟨a2, cc2, rfl, _⟩ := own2.slN.2
    have c02 : cellAt h2 ⟨g, 0, none⟩ = some (.slice ab (s.1.length + i) cb) := by rw [cellAt_of blk2]; rfl
    simp (disch := first | omega | assumption) only [C.code_choice_gos, vs, Go.Vc.vk, T.ts, ↓reduceIte, Nat.reduceEqDiff, reduceCtorEq, Nat.reduceLeDiff, Nat.reducePow, Int.reducePow, Int.reduceToNat, Nat.reduceAdd]
    refine eff_store1_z T.zr_37 rfl rfl rfl rfl rfl c02 (by simp [frozenAt, blk2]) ?_
    have own3 : Own h2 h0.size 5 1 (.slice a2 (s.1.length + i + 1) cc2) (s.1 ++ List.replicate (i + 1) 0).length (bytesV (s.1 ++ List.replicate (i + 1) 0)) := Own_cast own2 (by simp; omega) (by simp [bytesV, List.replicate_succ'])
    obtain ⟨H3, K3⟩ := En.setB hg ext2 blk2 own3
    have KA := (HK.trans (KeepB.ext (Ext.push hc (.cells #[.int .u8 0] 5)))).trans ((KeepB.app (g := g) (own.push _) fr2).trans K3)
    have qk2 := ((KeepB.app (g := g) (own.push _) fr2).trans K3).blk (push_blk (o' := .cells #[.int .u8 0] 5) qk) hqg (by decide)
    simp (disch := first | omega | assumption) only [C.code_choice_gos, vs, Go.Vc.vk, T.ts, ↓reduceIte, Nat.reduceEqDiff, reduceCtorEq, Nat.reduceLeDiff, Nat.reducePow, Int.reducePow, Int.reduceToNat, Nat.reduceAdd]
    exact ⟨_, by omega, i + 1, rfl, by omega, H3, KA, qk2⟩
  have hmod' : ((s.1.length + i : Nat) : Int) % 4 = 0 := by omega
  have hie : i = (4 - s.1.length % 4) % 4 := by omega
  have hpad : s.1 ++ List.replicate i 0 = padS s.1 := by rw [hie]; rfl
  rw [hpad] at HW0
  have hpl := padS_len s.1
  have d0 : cellAt hc ⟨q, 0, none⟩ = some (.int .i64 x.at') := by rw [cellAt_of qk]; rfl
  have d5 : cellAt hc ⟨q, 5, none⟩ = some (.int .i64 x.low) := by rw [cellAt_of qk]; rfl
  have d6 : cellAt hc ⟨q, 6, none⟩ = some (.slice ak x.keys.length ck) := by rw [cellAt_of qk]; rfl
  have d7 : cellAt hc ⟨q, 7, none⟩ = some (.slice at7 x.tgts.length ct) := by rw [cellAt_of qk]; rfl
  clear own hblk hll
  unfold choE
  by_cases hbad : x.tgts.length = 0 ∨ (f = 10 ∧ x.tgts.length = 1) ∨ (f = 11 ∧ x.tgts.length ≠ x.keys.length + 1)
  · rw [if_pos hbad]
    have hfz : frozenAt hc ⟨g, 1, none⟩ = false := by
      obtain ⟨_, _, vb, hblk, _⟩ := HW0
      simp [frozenAt, hblk]
    have c1 := HW0.c1
    obtain ⟨HS, KS⟩ := HW0.setOk false
    have hend : En h0 (setAt hc ⟨g, 1, none⟩ (.bool false)) g (padS s.1) false ∧ KeepB h (setAt hc ⟨g, 1, none⟩ (.bool false)) g := ⟨HS, HK.trans KS⟩
    by_cases b1 : (x.tgts.length : Int) - 1 < 0
    · simp (disch := first | omega | assumption) only [C.code_choice_gos, vs, Go.Vc.vk, T.ts, ↓reduceIte, Nat.reduceEqDiff, reduceCtorEq, Nat.reduceLeDiff, Nat.reducePow, Int.reducePow, Int.reduceToNat, Nat.reduceAdd, c0, eq_true hmod', d7, b1]
      refine eff_store1_z T.zr_4 rfl rfl rfl rfl rfl c1 hfz ?_
      simp (disch := first | omega | assumption) only [C.code_choice_gos, vs, Go.Vc.vk, T.ts, ↓reduceIte, Nat.reduceEqDiff, reduceCtorEq, Nat.reduceLeDiff, Nat.reducePow, Int.reducePow, Int.reduceToNat, Nat.reduceAdd]
      exact hend
    rcases hf with rfl | rfl
    · have b2 : (x.tgts.length : Int) - 1 = 0 := by omega
      rw [show ((10 : Nat) : Int) = 10 from rfl]
      simp (disch := first | omega | assumption) only [C.code_choice_gos, vs, Go.Vc.vk, T.ts, ↓reduceIte, Nat.reduceEqDiff, reduceCtorEq, Nat.reduceLeDiff, Nat.reducePow, Int.reducePow, Int.reduceToNat, Nat.reduceAdd, c0, eq_true hmod', d7, b1, eq_true b2, Int.reduceEq, decide_true, decide_false]
      refine eff_store1_z T.zr_4 rfl rfl rfl rfl rfl c1 hfz ?_
      simp (disch := first | omega | assumption) only [C.code_choice_gos, vs, Go.Vc.vk, T.ts, ↓reduceIte, Nat.reduceEqDiff, reduceCtorEq, Nat.reduceLeDiff, Nat.reducePow, Int.reducePow, Int.reduceToNat, Nat.reduceAdd]
      exact hend
    · have b2 : ¬ (x.tgts.length : Int) - 1 = x.keys.length := by omega
      rw [show ((11 : Nat) : Int) = 11 from rfl]
      simp (disch := first | omega | assumption) only [C.code_choice_gos, vs, Go.Vc.vk, T.ts, ↓reduceIte, Nat.reduceEqDiff, reduceCtorEq, Nat.reduceLeDiff, Nat.reducePow, Int.reducePow, Int.reduceToNat, Nat.reduceAdd, c0, eq_true hmod', d6, d7, b1, eq_false b2, Int.reduceEq, decide_true, decide_false]
      refine eff_store1_z T.zr_4 rfl rfl rfl rfl rfl c1 hfz ?_
      simp (disch := first | omega | assumption) only [C.code_choice_gos, vs, Go.Vc.vk, T.ts, ↓reduceIte, Nat.reduceEqDiff, reduceCtorEq, Nat.reduceLeDiff, Nat.reducePow, Int.reducePow, Int.reduceToNat, Nat.reduceAdd]
      exact hend
  rw [if_neg hbad]
  have b1 : ¬ (x.tgts.length : Int) - 1 < 0 := by omega
  have h1t : 1 ≤ x.tgts.length := by omega
  have hn1 : (x.tgts.length : Int) - 1 = ((x.tgts.length - 1 : Nat) : Int) := by omega
  have wr1 : IntKind.i64.wrap (x.tgts.getD 0 0 - x.at') = wr (x.tgts.getD 0 0 - x.at') := rfl
  have hx5 := HW0.2.1
  obtain ⟨tb, to, tc, heqt, hcell0⟩ : ∃ tb to tc, (Value.slice at7 x.tgts.length ct) = .slice (some ⟨tb, to, none⟩) x.tgts.length tc ∧ ∀ j, j < x.tgts.length → ∀ h', Ext h0 h' → cellAt h' ⟨tb, to + j, none⟩ = some (.int .i64 (x.tgts.getD j 0)) := by
    obtain ⟨b, o, c, he, _, _⟩ := ht.at (i := 0) (by omega)
    refine ⟨b, o, c, he, ?_⟩
    intro j hj h' hx'
    obtain ⟨b2, o2, c2, he2, hr2, _⟩ := (ht.ext (by decide) hx').at (i := j) hj
    rw [he] at he2
    cases he2
    have := hr2 0 (.int .i64 (x.tgts.getD j 0)) (by simp [intsV, hj])
    simpa using this
  cases heqt
  have t0 := hcell0 0 (by omega) hc hx5
  rw [Nat.add_zero] at t0
  have hpos : (0 : Int) < x.tgts.length := by omega
  have wr2 : IntKind.i64.wrap (x.low + ((x.tgts.length : Int) - 1)) = wr (x.low + ((x.tgts.length - 1 : Nat) : Int)) := by rw [hn1]; rfl
  have wr3 : IntKind.i64.wrap (wr (x.low + ((x.tgts.length - 1 : Nat) : Int)) - 1) = wr (wr (x.low + ((x.tgts.length - 1 : Nat) : Int)) - 1) := rfl
  have wrt : ∀ n : Int, IntKind.i64.wrap (n - x.at') = wr (n - x.at') := fun _ => rfl
  have hsub := SlN.sub (lo := 1) (hi := x.tgts.length) ht h1t (Nat.le_refl _) hcap
  have hsub2 : ((intsV x.tgts).take (x.tgts.length * 1)).drop (1 * 1) = intsV (x.tgts.drop 1) := by
    rw [List.take_of_length_le (by rw [intsV_len]; omega)]; simp [intsV]
  rw [hsub2] at hsub
  have h1i : (1 : Int) ≤ x.tgts.length := by omega
  have hslot : ∀ (f : Nat) (s2 : ES) (hh : Heap), (f = 10 ∨ f = 11) → s2.1.length ≤ 1073741824 + 64 → En h0 hh g s2.1 s2.2 → KeepB h hh g → hh[q]? = some (.cells #[.int .i64 x.at', .int .u8 (x.op : Int), .bool x.wide, .int .i64 x.A, .int .i64 x.B, .int .i64 x.low, .slice ak x.keys.length ck, .slice (some ⟨tb, to, none⟩) x.tgts.length ct] 35 (0, 0)) → (f = 11 → x.tgts.length = x.keys.length + 1) →
      ∀ ρ0 : Env, Env.keep [0, 2, 4, 80, 81, 82] ρ0 = [(0, .pointer (some ⟨g, 0, none⟩)), (2, .int .i64 f), (4, .pointer (some ⟨q, 0, none⟩)), (80, .slice (slA (some ⟨tb, to, none⟩) ct 1 1) (x.tgts.length - 1) (ct - 1)), (81, .int .i64 (x.tgts.length - 1 : Nat)), (82, .int .i64 0)] →
      Cd.vc Try.prog (.loop C.code_choice_l1) (Ex.inb 2 (retQ Try.prog [] fun _ h' => En h0 h' g (rowE f x.keys x.at' (x.tgts.drop 1) 0 s2).1 (rowE f x.keys x.at' (x.tgts.drop 1) 0 s2).2 ∧ KeepB h h' g)) ρ0 hh := by
    intro f s2 hh hf hs2 HE KE qk2 hfl ρ0 hρ
    refine loop_intro [0, 2, 4, 80, 81, 82] (fun m ρ hc => ∃ (i : Nat) (s' : ES), m = (x.tgts.length - 1) - i ∧ i ≤ x.tgts.length - 1 ∧ ρ = [(0, .pointer (some ⟨g, 0, none⟩)), (2, .int .i64 f), (4, .pointer (some ⟨q, 0, none⟩)), (80, .slice (slA (some ⟨tb, to, none⟩) ct 1 1) (x.tgts.length - 1) (ct - 1)), (81, .int .i64 (x.tgts.length - 1 : Nat)), (82, .int .i64 i)] ∧
      En h0 hc g s'.1 s'.2 ∧ KeepB h hc g ∧ hc[q]? = some (.cells #[.int .i64 x.at', .int .u8 (x.op : Int), .bool x.wide, .int .i64 x.A, .int .i64 x.B, .int .i64 x.low, .slice ak x.keys.length ck, .slice (some ⟨tb, to, none⟩) x.tgts.length ct] 35 (0, 0)) ∧ rowE f x.keys x.at' (x.tgts.drop (1 + i)) i s' = rowE f x.keys x.at' (x.tgts.drop 1) 0 s2 ∧ s'.1.length ≤ 1073741824 + 64 + 8 * i) ?_ ?_
    · rw [hρ]
      exact ⟨_, 0, s2, rfl, Nat.zero_le _, rfl, HE, KE, qk2, rfl, by omega⟩
    rintro m ρ hc ⟨i, s', rfl, hi, rfl, HE', KE', qk', hR, hsl⟩
    rcases Nat.lt_or_ge i (x.tgts.length - 1) with hlt | hge
    case inr =>
      have hlt' : ¬ (i : Int) < ((x.tgts.length - 1 : Nat) : Int) := by omega
      have hd : x.tgts.drop (1 + i) = [] := by rw [List.drop_eq_nil_iff]; omega
      rw [hd, rowE] at hR
      subst hR
      simp (disch := first | omega | assumption) only [C.code_choice_gos, vs, Go.Vc.vk, T.ts, ↓reduceIte, Nat.reduceEqDiff, reduceCtorEq, Nat.reduceLeDiff, Nat.reducePow, Int.reducePow, Int.reduceToNat, Nat.reduceAdd, hlt']
      exact ⟨HE', KE'⟩
    have hlt' : (i : Int) < ((x.tgts.length - 1 : Nat) : Int) := by omega
    obtain ⟨sb, so, sc, hes, hcs, _⟩ := (hsub.ext (by decide) HE'.2.1).at hlt
    have esl : slA (some ⟨tb, to, none⟩) ct 1 1 = some ⟨sb, so, none⟩ := by
      simp only [Value.slice.injEq] at hes
      exact hes.1
    have hdr : x.tgts.drop (1 + i) = x.tgts.getD (1 + i) 0 :: x.tgts.drop (1 + (i + 1)) := by
      rw [List.drop_eq_getElem_cons (by omega), show 1 + i + 1 = 1 + (i + 1) by omega]
      congr 1
      simp [show 1 + i < x.tgts.length by omega]
    have hct : cellAt hc ⟨sb, so + i, none⟩ = some (.int .i64 (x.tgts.getD (1 + i) 0)) := by
      have := hcs 0 (.int .i64 (x.tgts.getD (1 + i) 0)) (by simp [intsV, show 1 + i < x.tgts.length by omega, show i + 1 < x.tgts.length by omega, Nat.add_comm i 1])
      simpa using this
    rw [hdr, rowE] at hR
    have d0 : cellAt hc ⟨q, 0, none⟩ = some (.int .i64 x.at') := by rw [cellAt_of qk']; rfl
    have d6 : cellAt hc ⟨q, 6, none⟩ = some (.slice ak x.keys.length ck) := by rw [cellAt_of qk']; rfl
    obtain ⟨b', ok'⟩ := s'
    have c1 := HE'.c1
    have hfz : frozenAt hc ⟨g, 1, none⟩ = false := by
      obtain ⟨_, _, vb, hblk, _⟩ := HE'
      simp [frozenAt, hblk]
    simp only at hsl
    rcases hf with rfl | rfl
    · rw [if_neg (by decide)] at hR
      rw [show ((10 : Nat) : Int) = 10 from rfl]
      simp (disch := first | omega | assumption) only [C.code_choice_gos, vs, Go.Vc.vk, T.ts, ↓reduceIte, Nat.reduceEqDiff, reduceCtorEq, Nat.reduceLeDiff, Nat.reducePow, Int.reducePow, Int.reduceToNat, Nat.reduceAdd, hlt', esl, hct, d0, wrt, Int.reduceEq, Int.reduceToNat, decide_false]
      refine eff_call_of ?_
      simp (disch := first | omega | assumption) only [C.code_choice_gos, vs, Go.Vc.vk, T.ts, ↓reduceIte, Nat.reduceEqDiff, reduceCtorEq, Nat.reduceLeDiff, Nat.reducePow, Int.reducePow, Int.reduceToNat, Nat.reduceAdd]
      refine (sig_any _ 4 (by omega) (by show b'.length ≤ _; omega) HE').mono ?_
      rintro v1 h1 ⟨H1, K1⟩
      have q1 := K1.blk qk' hqg (by decide)
      simp (disch := first | omega | assumption) only [C.code_choice_gos, vs, Go.Vc.vk, T.ts, ↓reduceIte, Nat.reduceEqDiff, reduceCtorEq, Nat.reduceLeDiff, Nat.reducePow, Int.reducePow, Int.reduceToNat, Nat.reduceAdd]
      exact ⟨_, by omega, i + 1, _, rfl, by omega, rfl, H1, KE'.trans K1, q1, hR, by rw [sgnS, putS_len]; show b'.length + 4 ≤ _; omega⟩
    · rw [if_pos rfl] at hR
      rw [show ((11 : Nat) : Int) = 11 from rfl]
      have hfl' := hfl rfl
      have hik : (i : Int) < x.keys.length := by omega
      have kcell : ∀ (h' : Heap), Ext h0 h' → ∀ j, j < x.keys.length → ∃ kb ko, ak = some ⟨kb, ko, none⟩ ∧ cellAt h' ⟨kb, ko + j, none⟩ = some (.int .i64 (x.keys.getD j 0)) := by
        intro h' hx' j hj
        obtain ⟨b2, o2, c2, he2, hr2, _⟩ := (hk.ext (by decide) hx').at (i := j) hj
        cases he2
        have := hr2 0 (.int .i64 (x.keys.getD j 0)) (by simp [intsV, hj])
        exact ⟨b2, o2, rfl, by simpa using this⟩
      obtain ⟨kb, ko, rfl, k0⟩ := kcell hc HE'.2.1 i (by omega)
      have hlk : i < x.keys.length := by omega
      obtain ⟨HS, KS⟩ := HE'.setOk (ok' && ordK x.keys i)
      have qS := KS.blk qk' hqg (by decide)
      by_cases hok : ok' = false
      case' pos =>
        subst hok
        simp only [Bool.false_and] at HS KS qS hR
        simp (disch := first | omega | assumption) only [C.code_choice_gos, vs, Go.Vc.vk, T.ts, ↓reduceIte, Nat.reduceEqDiff, reduceCtorEq, Nat.reduceLeDiff, Nat.reducePow, Int.reducePow, Int.reduceToNat, Nat.reduceAdd, hlt', esl, hct, c1, d0, wrt, Int.reduceEq, Int.reduceToNat, decide_true]
      case' neg =>
        simp only [Bool.not_eq_false] at hok
        subst hok
        by_cases hi0 : i = 0
        case' pos =>
          have e0 : (i : Int) = 0 := by omega
          simp only [show ordK x.keys i = true by simp [ordK, hi0], Bool.and_true] at HS KS qS hR
          simp (disch := first | omega | assumption) only [C.code_choice_gos, vs, Go.Vc.vk, T.ts, ↓reduceIte, Nat.reduceEqDiff, reduceCtorEq, Nat.reduceLeDiff, Nat.reducePow, Int.reducePow, Int.reduceToNat, Nat.reduceAdd, hlt', esl, hct, c1, d0, eq_true e0, wrt, Int.reduceEq, Int.reduceToNat, decide_true]
        case' neg =>
          obtain ⟨_, _, hkk, k1⟩ := kcell hc HE'.2.1 (i - 1) (by omega)
          cases hkk
          have e0 : ¬ (i : Int) = 0 := by omega
          have e1 : (i : Int) - 1 = ((i - 1 : Nat) : Int) := by omega
          have e2 : ((i - 1 : Nat) : Int) < x.keys.length := by omega
          have e3 : ordK x.keys i = decide (x.keys.getD (i - 1) 0 < x.keys.getD i 0) := by simp [ordK, show ¬ i = 0 by omega]
          simp only [Bool.true_and, e3] at HS KS qS hR
          simp (disch := first | omega | assumption) only [C.code_choice_gos, vs, Go.Vc.vk, T.ts, ↓reduceIte, Nat.reduceEqDiff, reduceCtorEq, Nat.reduceLeDiff, Nat.reducePow, Int.reducePow, Int.reduceToNat, Nat.reduceAdd, hlt', esl, hct, c1, d0, d6, e0, e1, e2, k0, k1, hik, wrt, Int.reduceEq, Int.reduceToNat, decide_true]
      all_goals
        refine eff_store1_z T.zr_4 rfl rfl rfl rfl rfl c1 hfz ?_
        obtain ⟨_, _, hkk2, k2⟩ := kcell _ HS.2.1 _ hlk
        cases hkk2
        have d0' := cellAt_of (j := 0) qS
        have d6' := cellAt_of (j := 6) qS
        simp only [List.getElem?_toArray, List.getElem?_cons_zero, List.getElem?_cons_succ] at d0' d6'
        simp (disch := first | omega | assumption) only [C.code_choice_gos, vs, Go.Vc.vk, T.ts, ↓reduceIte, Nat.reduceEqDiff, reduceCtorEq, Nat.reduceLeDiff, Nat.reducePow, Int.reducePow, Int.reduceToNat, Nat.reduceAdd, hik, d0', d6', k2, wrt, Int.reduceToNat]
        refine eff_call_of ?_
        simp (disch := first | omega | assumption) only [C.code_choice_gos, vs, Go.Vc.vk, T.ts, ↓reduceIte, Nat.reduceEqDiff, reduceCtorEq, Nat.reduceLeDiff, Nat.reducePow, Int.reducePow, Int.reduceToNat, Nat.reduceAdd]
        refine (sig_any _ 4 (by omega) (by show b'.length ≤ _; omega) HS).mono ?_
        rintro v1 h1 ⟨H1, K1⟩
        have q1 := K1.blk qS hqg (by decide)
        have e0' := cellAt_of (j := 0) q1
        simp only [List.getElem?_toArray, List.getElem?_cons_zero, List.getElem?_cons_succ] at e0'
        simp (disch := first | omega | assumption) only [C.code_choice_gos, vs, Go.Vc.vk, T.ts, ↓reduceIte, Nat.reduceEqDiff, reduceCtorEq, Nat.reduceLeDiff, Nat.reducePow, Int.reducePow, Int.reduceToNat, Nat.reduceAdd, e0', wrt, Int.reduceToNat]
        refine eff_call_of ?_
        simp (disch := first | omega | assumption) only [C.code_choice_gos, vs, Go.Vc.vk, T.ts, ↓reduceIte, Nat.reduceEqDiff, reduceCtorEq, Nat.reduceLeDiff, Nat.reducePow, Int.reducePow, Int.reduceToNat, Nat.reduceAdd]
        refine (sig_any _ 4 (by omega) (by simp [bigS_len]; omega) H1).mono ?_
        rintro v2 h2 ⟨H2, K2⟩
        have q2 := K2.blk q1 hqg (by decide)
        simp (disch := first | omega | assumption) only [C.code_choice_gos, vs, Go.Vc.vk, T.ts, ↓reduceIte, Nat.reduceEqDiff, reduceCtorEq, Nat.reduceLeDiff, Nat.reducePow, Int.reducePow, Int.reduceToNat, Nat.reduceAdd]
        exact ⟨_, by omega, i + 1, _, rfl, by omega, rfl, H2, ((KE'.trans KS).trans K1).trans K2, q2, hR, by simp [sgnS, putS_len]; omega⟩
  have hcall : ∀ (z : Int) (b' : List UInt8) (ok' : Bool) (hd : Heap), b'.length ≤ 1099511627776 → En h0 hd g b' ok' → KeepB h hd g → hd[q]? = some (.cells #[.int .i64 x.at', .int .u8 (x.op : Int), .bool x.wide, .int .i64 x.A, .int .i64 x.B, .int .i64 x.low, .slice ak x.keys.length ck, .slice (some ⟨tb, to, none⟩) x.tgts.length ct] 35 (0, 0)) →
      HCalls Try.prog 29 #[.pointer (some ⟨g, 0, none⟩), .int .i64 z, .int .i64 4] hd fun _ h' => En h0 h' g (sgnS (b', ok') z 4).1 (sgnS (b', ok') z 4).2 ∧ KeepB h h' g ∧ h'[q]? = some (.cells #[.int .i64 x.at', .int .u8 (x.op : Int), .bool x.wide, .int .i64 x.A, .int .i64 x.B, .int .i64 x.low, .slice ak x.keys.length ck, .slice (some ⟨tb, to, none⟩) x.tgts.length ct] 35 (0, 0)) ∧ cellAt h' ⟨q, 5, none⟩ = some (.int .i64 x.low) ∧ cellAt h' ⟨q, 7, none⟩ = some (.slice (some ⟨tb, to, none⟩) x.tgts.length ct) := by
    intro z b' ok' hd hbl He Ke qe
    refine (sig_any z 4 (by omega) hbl He).mono ?_
    rintro v1 h1 ⟨H1, K1⟩
    have q1 := K1.blk qe hqg (by decide)
    exact ⟨H1, Ke.trans K1, q1, by rw [cellAt_of q1]; rfl, by rw [cellAt_of q1]; rfl⟩
  rcases hf with rfl | rfl
  · have b2 : ¬ (x.tgts.length : Int) - 1 = 0 := by omega
    rw [show ((10 : Nat) : Int) = 10 from rfl]
    simp (disch := first | omega | assumption) only [C.code_choice_gos, vs, Go.Vc.vk, T.ts, ↓reduceIte, Nat.reduceEqDiff, reduceCtorEq, Nat.reduceLeDiff, Nat.reducePow, Int.reducePow, Int.reduceToNat, Nat.reduceAdd, c0, eq_true hmod', d0, d5, d6, d7, t0, b1, eq_false b2, hpos, wr1, Int.reduceEq, Int.reduceToNat, Nat.zero_mul, decide_true, decide_false]
    refine eff_call_of ?_
    simp (disch := first | omega | assumption) only [C.code_choice_gos, vs, Go.Vc.vk, T.ts, ↓reduceIte, Nat.reduceEqDiff, reduceCtorEq, Nat.reduceLeDiff, Nat.reducePow, Int.reducePow, Int.reduceToNat, Nat.reduceAdd]
    refine (hcall _ _ _ _ (by omega) HW0 HK qk).mono ?_
    rintro v1 h1 ⟨H1, K1, q1, c15, c17⟩
    simp (disch := first | omega | assumption) only [C.code_choice_gos, vs, Go.Vc.vk, T.ts, ↓reduceIte, Nat.reduceEqDiff, reduceCtorEq, Nat.reduceLeDiff, Nat.reducePow, Int.reducePow, Int.reduceToNat, Nat.reduceAdd, c15, Int.reduceEq, decide_true]
    refine eff_call_of ?_
    simp (disch := first | omega | assumption) only [C.code_choice_gos, vs, Go.Vc.vk, T.ts, ↓reduceIte, Nat.reduceEqDiff, reduceCtorEq, Nat.reduceLeDiff, Nat.reducePow, Int.reducePow, Int.reduceToNat, Nat.reduceAdd]
    refine (hcall _ _ _ _ (by simp only [sgnS, putS_len]; omega) H1 K1 q1).mono ?_
    rintro v2 h2 ⟨H2, K2, q2, c25, c27⟩
    simp (disch := first | omega | assumption) only [C.code_choice_gos, vs, Go.Vc.vk, T.ts, ↓reduceIte, Nat.reduceEqDiff, reduceCtorEq, Nat.reduceLeDiff, Nat.reducePow, Int.reducePow, Int.reduceToNat, Nat.reduceAdd, c25, wr2, wr3]
    refine eff_call_of ?_
    simp (disch := first | omega | assumption) only [C.code_choice_gos, vs, Go.Vc.vk, T.ts, ↓reduceIte, Nat.reduceEqDiff, reduceCtorEq, Nat.reduceLeDiff, Nat.reducePow, Int.reducePow, Int.reduceToNat, Nat.reduceAdd]
    refine (hcall _ _ _ _ (by simp only [sgnS, putS_len]; omega) H2 K2 q2).mono ?_
    rintro v3 h3 ⟨H3, K3, q3, c35, c37⟩
    simp (disch := first | omega | assumption) only [C.code_choice_gos, vs, Go.Vc.vk, T.ts, ↓reduceIte, Nat.reduceEqDiff, reduceCtorEq, Nat.reduceLeDiff, Nat.reducePow, Int.reducePow, Int.reduceToNat, Nat.reduceAdd, c37, hn1, h1i, h1t, hcap]
    refine hslot 10 (sgnS (sgnS (sgnS (padS s.1, s.2) (wr (x.tgts.getD 0 0 - x.at')) 4) x.low 4) (wr (wr (x.low + ((x.tgts.length - 1 : Nat) : Int)) - 1)) 4) _ (Or.inl rfl) ?_ H3 K3 q3 (by omega) _ ?_
    · simp only [sgnS, putS_len]; omega
    · simp only [vs, Go.Vc.vk, ↓reduceIte, Nat.reduceEqDiff, reduceCtorEq, Nat.reduceLeDiff, Nat.reducePow, Int.reducePow, Int.reduceToNat, Nat.reduceAdd]
      rfl
  · have b2 : (x.tgts.length : Int) - 1 = x.keys.length := by omega
    rw [show ((11 : Nat) : Int) = 11 from rfl]
    simp (disch := first | omega | assumption) only [C.code_choice_gos, vs, Go.Vc.vk, T.ts, ↓reduceIte, Nat.reduceEqDiff, reduceCtorEq, Nat.reduceLeDiff, Nat.reducePow, Int.reducePow, Int.reduceToNat, Nat.reduceAdd, c0, eq_true hmod', d0, d5, d6, d7, t0, b1, eq_true b2, hpos, wr1, Int.reduceEq, Int.reduceToNat, Nat.zero_mul, decide_true, decide_false]
    refine eff_call_of ?_
    simp (disch := first | omega | assumption) only [C.code_choice_gos, vs, Go.Vc.vk, T.ts, ↓reduceIte, Nat.reduceEqDiff, reduceCtorEq, Nat.reduceLeDiff, Nat.reducePow, Int.reducePow, Int.reduceToNat, Nat.reduceAdd]
    refine (hcall _ _ _ _ (by omega) HW0 HK qk).mono ?_
    rintro v1 h1 ⟨H1, K1, q1, c15, c17⟩
    simp (disch := first | omega | assumption) only [C.code_choice_gos, vs, Go.Vc.vk, T.ts, ↓reduceIte, Nat.reduceEqDiff, reduceCtorEq, Nat.reduceLeDiff, Nat.reducePow, Int.reducePow, Int.reduceToNat, Nat.reduceAdd, c15, Int.reduceEq, decide_false]
    refine eff_call_of ?_
    simp (disch := first | omega | assumption) only [C.code_choice_gos, vs, Go.Vc.vk, T.ts, ↓reduceIte, Nat.reduceEqDiff, reduceCtorEq, Nat.reduceLeDiff, Nat.reducePow, Int.reducePow, Int.reduceToNat, Nat.reduceAdd]
    refine (hcall _ _ _ _ (by simp only [sgnS, putS_len]; omega) H1 K1 q1).mono ?_
    rintro v2 h2 ⟨H2, K2, q2, c25, c27⟩
    rw [hn1] at H2
    simp (disch := first | omega | assumption) only [C.code_choice_gos, vs, Go.Vc.vk, T.ts, ↓reduceIte, Nat.reduceEqDiff, reduceCtorEq, Nat.reduceLeDiff, Nat.reducePow, Int.reducePow, Int.reduceToNat, Nat.reduceAdd, c27, hn1, h1i, h1t, hcap]
    refine hslot 11 (sgnS (sgnS (padS s.1, s.2) (wr (x.tgts.getD 0 0 - x.at')) 4) ((x.tgts.length - 1 : Nat) : Int) 4) _ (Or.inr rfl) ?_ H2 K2 q2 (by omega) _ ?_
    · simp only [sgnS, putS_len]; omega
    · simp only [vs, Go.Vc.vk, ↓reduceIte, Nat.reduceEqDiff, reduceCtorEq, Nat.reduceLeDiff, Nat.reducePow, Int.reducePow, Int.reduceToNat, Nat.reduceAdd]
      rfl
end
end Go.Proofs.Ytjpcpkhegjndeaa

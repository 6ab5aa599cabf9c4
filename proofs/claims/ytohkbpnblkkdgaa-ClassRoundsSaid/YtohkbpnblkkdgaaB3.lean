/- A pool as bytes, by the reference. -/
import Derived.Test.YtohkbpnblkkdgaaB2
import Derived.Test.YtohkbpnblkkdgaaB5
import Derived.Test.YtohkbpnblkkdgaaCx
namespace Go.Proofs.Ytohkbpnblkkdgaa
open Go.Vc
set_option maxRecDepth 100000
set_option linter.unusedSimpArgs false
set_option linter.unusedVariables false



set_option maxHeartbeats 4000000 in
theorem rwrite_any (cs : List Cst) (v : Value) (h : Heap) (hs : SlN h 5 v cs.length (flatS cs)) (hf : ∀ c ∈ cs, c.Fit) (hl : ∀ c ∈ cs, c.text.length ≤ 1073741824) (hlen : cs.length ≤ 9223372036854775807) :
    HCalls Try.prog 46 #[v] h fun r h' => Ext h h' ∧ r = wV (writeS cs) := by
  refine C.ref1_Write_calls (args := [v]) rfl ?_
  have hs' := hs
  obtain ⟨_, a, c, rfl, _⟩ := hs'
  by_cases hb : cs.length = 0 ∨ 65535 < cs.length
  · have hw : writeS cs = ([], 12, 0) := if_pos hb
    rw [hw]
    rcases hb with h0 | h1
    · have e0 : (cs.length : Int) < 1 := by omega
      simp (disch := first | omega | assumption) only [C.ref1_Write_gos, T.tv, ↓reduceIte, Nat.reduceEqDiff, reduceCtorEq, Nat.reduceLeDiff, Nat.reducePow, Int.reducePow, Int.reduceToNat, Nat.reduceAdd, e0]
      exact ⟨Ext.refl _, rfl⟩
    · have e0 : ¬ (cs.length : Int) < 1 := by omega
      have e1 : 65535 < (cs.length : Int) := by omega
      simp (disch := first | omega | assumption) only [C.ref1_Write_gos, T.tv, ↓reduceIte, Nat.reduceEqDiff, reduceCtorEq, Nat.reduceLeDiff, Nat.reducePow, Int.reducePow, Int.reduceToNat, Nat.reduceAdd, e0, e1]
      exact ⟨Ext.refl _, rfl⟩
  · have hw : writeS cs = wrS cs true 0 (bigS cs.length 2) := if_neg hb
    have e0 : ¬ (cs.length : Int) < 1 := by omega
    have e1 : ¬ 65535 < (cs.length : Int) := by omega
    have hwr : IntKind.u64.wrap (cs.length : Int) = (cs.length : Int) := wrap_u64 (by omega) (by omega)
    simp (disch := first | omega | assumption) only [C.ref1_Write_gos, T.tv, ↓reduceIte, Nat.reduceEqDiff, reduceCtorEq, Nat.reduceLeDiff, Nat.reducePow, Int.reducePow, Int.reduceToNat, Nat.reduceAdd, e0, e1, hwr]
    refine eff_call_of ?_
    simp (disch := first | omega | assumption) only [C.ref1_Write_gos, T.tv, ↓reduceIte, Nat.reduceEqDiff, reduceCtorEq, Nat.reduceLeDiff, Nat.reducePow, Int.reducePow, Int.reduceToNat, Nat.reduceAdd]
    have hbig := rbig_any cs.length 2 h (by omega) (by omega)
    rw [show ((2 : Nat) : Int) = 2 from rfl] at hbig
    refine hbig.mono ?_
    rintro v1 h1 ⟨x1, rfl⟩
    simp (disch := first | omega | assumption) only [C.ref1_Write_gos, T.tv, ↓reduceIte, Nat.reduceEqDiff, reduceCtorEq, Nat.reduceLeDiff, Nat.reducePow, Int.reducePow, Int.reduceToNat, Nat.reduceAdd]
    refine loop_intro [0, 5, 26, 27, 28] (fun m ρ hc => ∃ (i : Nat) (out : List UInt8) (e : Bool), m = cs.length - i ∧ i ≤ cs.length ∧
      ρ = [(0, .slice a cs.length c), (5, str out), (26, .slice a cs.length c), (27, .int .i64 cs.length), (28, .int .i64 i)] ∧
      e = (decide (i = 0) || bigTwo (cs.getD (i - 1) Cst.zero).tag) ∧ Ext h hc ∧ writeS cs = wrS (cs.drop i) e i out ∧ out.length ≤ 2 + i * 65600) ?_ ?_
    · simp (disch := first | omega | assumption) only [C.ref1_Write_gos, T.tv, ↓reduceIte, Nat.reduceEqDiff, reduceCtorEq, Nat.reduceLeDiff, Nat.reducePow, Int.reducePow, Int.reduceToNat, Nat.reduceAdd]
      exact ⟨_, 0, _, true, rfl, Nat.zero_le _, rfl, by simp, x1, by rw [hw]; rfl, by rw [bigS_len]; omega⟩
    · rintro m ρ hc ⟨i, out, e, rfl, hi, rfl, he, hext, hwi, hout⟩
      rcases Nat.lt_or_ge i cs.length with hlt | hge
      · have hlt' : (i : Int) < cs.length := by omega
        obtain ⟨b, o, c', heq, hrd, _⟩ := (hs.ext (by decide) hext).at hlt
        cases heq
        have hrp : 0 < i → Rd hc b (o + (i - 1) * 5) (cs.getD (i - 1) Cst.zero).cells := by
          intro h0
          obtain ⟨b', o', c'', heq, hrd', _⟩ := (hs.ext (by decide) hext).at (i := i - 1) (by omega)
          cases heq
          rw [flatS_at (by omega)] at hrd'
          exact hrd'
        generalize cs.getD (i - 1) Cst.zero = kp at hrp he
        rw [flatS_at hlt] at hrd
        have hfit : (cs.getD i Cst.zero).Fit := hf _ (by simp [hlt])
        have htx : (cs.getD i Cst.zero).text.length ≤ 1073741824 := hl _ (by simp [hlt])
        have st := @wrS_step cs i hlt e out
        have er := @wrS_err cs i hlt e out
        have hgi : (cs.getD (i + 1 - 1) Cst.zero).tag = (cs.getD i Cst.zero).tag := by rw [Nat.add_sub_cancel]
        generalize cs.getD i Cst.zero = k at *
        obtain ⟨tag, text, bits, ka, kb⟩ := k
        have hld := ld_agg T.ag_76 hrd rfl
        simp only [Cst.cells] at hld hrd
        simp (disch := first | omega | assumption) only [C.ref1_Write_gos, T.tv, ↓reduceIte, Nat.reduceEqDiff, reduceCtorEq, Nat.reduceLeDiff, Nat.reducePow, Int.reducePow, Int.reduceToNat, Nat.reduceAdd, hlt', hld]
        refine eff_alloc_z T.zr_76 ?_
        simp (disch := first | omega | assumption) only [C.ref1_Write_gos, T.tv, ↓reduceIte, Nat.reduceEqDiff, reduceCtorEq, Nat.reduceLeDiff, Nat.reducePow, Int.reducePow, Int.reduceToNat, Nat.reduceAdd]
        refine eff_store_new_z T.zr_76 rfl rfl rfl (by simp [Value.cells, oneCell, str]) rfl ?_
        intro h3 x3 hlt3 hrd3 b3
        change h3[hc.size]? = some (.cells #[.int .u8 (tag : Int), str text, .int .u64 (bits : Int), .int .u16 (ka : Int), .int .u16 (kb : Int)] 76 (0, 0)) at b3
        have c0 : cellAt h3 ⟨hc.size, 0, none⟩ = some (.int .u8 (tag : Int)) := hrd3 0 _ rfl
        have c1 : cellAt h3 ⟨hc.size, 1, none⟩ = some (str text) := hrd3 1 _ rfl
        have c2 : cellAt h3 ⟨hc.size, 2, none⟩ = some (.int .u64 (bits : Int)) := hrd3 2 _ rfl
        have c3 : cellAt h3 ⟨hc.size, 3, none⟩ = some (.int .u16 (ka : Int)) := hrd3 3 _ rfl
        have c4 : cellAt h3 ⟨hc.size, 4, none⟩ = some (.int .u16 (kb : Int)) := hrd3 4 _ rfl
        have hext3 := hext.trans x3
        have cp : 0 < i → cellAt h3 ⟨b, o + (i - 1) * 5, none⟩ = some (.int .u8 (kp.tag : Int)) := by
          intro h0
          exact (x3.rd (hrp h0) ((hrp h0).lt (by simp [Cst.cells])) id) 0 _ rfl
        clear hrd3 hrd hld hrp
        have hi1 : 0 < i → (i : Int) - 1 = ((i - 1 : Nat) : Int) := fun h0 => by omega
        obtain ⟨kt, kx, kbi, kka, kkb⟩ := kp
        simp only at cp he

        have errL : tag ≠ 0 → e = true → errS e ⟨tag, text, bits, ka, kb⟩ = 5 := by
          intro h0 h1; subst h1; simp [errS, h0]
        have fin : ∀ (out2 : List UInt8) (h' : Heap) (i0 : Nat), i0 = i → errS e ⟨tag, text, bits, ka, kb⟩ = 0 → out2 = out ++ oneS ⟨tag, text, bits, ka, kb⟩ → (oneS ⟨tag, text, bits, ka, kb⟩).length ≤ 65600 → Ext h h' →
            ∃ m', m' < cs.length - i ∧ ∃ (i : Nat) (out : List UInt8) (e : Bool), m' = cs.length - i ∧ i ≤ cs.length ∧
              [(0, .slice (some ⟨b, o, none⟩) cs.length c), (5, str out2), (26, .slice (some ⟨b, o, none⟩) cs.length c), (27, .int .i64 cs.length), (28, .int .i64 ((i0 : Int) + 1))] =
                [(0, .slice (some ⟨b, o, none⟩) cs.length c), (5, str out), (26, .slice (some ⟨b, o, none⟩) cs.length c), (27, .int .i64 cs.length), (28, .int .i64 (i : Int))] ∧
              e = (decide (i = 0) || bigTwo (cs.getD (i - 1) Cst.zero).tag) ∧ Ext h h' ∧ writeS cs = wrS (cs.drop i) e i out ∧ out.length ≤ 2 + i * 65600 := by
          intro out2 h' i0 hi0 he2 ho hol hx'
          subst hi0 ho
          refine ⟨_, ?_, i0 + 1, _, bigTwo tag, rfl, by omega, rfl, ?_, hx', ?_, ?_⟩
          · omega
          · rw [hgi]; simp
          · rw [hwi, st he2]
          · rw [List.length_append]; omega
        have z0 : tag = 0 → e = true → errS e ⟨tag, text, bits, ka, kb⟩ = 0 := by
          intro h0 h1; subst h0 h1; simp [errS]
        by_cases hE : e = true
        · rw [hE] at he
          rcases Nat.eq_zero_or_pos i with hz | hz
          · have q : ¬ (0 : Int) < (i : Int) := by omega
            have q' : (i : Int) = 0 := by omega
            by_cases t0 : tag = 0
            · have c0' := c0
              rw [t0, show ((0 : Nat) : Int) = 0 from rfl] at c0'
              simp (disch := first | omega | assumption) only [C.ref1_Write_gos, T.tv, ↓reduceIte, Nat.reduceEqDiff, reduceCtorEq, Nat.reduceLeDiff, Nat.reducePow, Int.reducePow, Int.reduceToNat, Nat.reduceAdd, c0', Int.reduceEq, decide_true, decide_false, q, eq_true q']
              have o0 : oneS ⟨tag, text, bits, ka, kb⟩ = [] := by simp [oneS, t0]
              exact fin out h3 i rfl (z0 t0 hE) (by rw [o0]; simp) (by rw [o0]; simp) hext3
            · have t0' : ¬ (tag : Int) = 0 := by omega
              rw [hwi, er (by rw [errL t0 hE]; decide), errL t0 hE]
              simp (disch := first | omega | assumption) only [C.ref1_Write_gos, T.tv, ↓reduceIte, Nat.reduceEqDiff, reduceCtorEq, Nat.reduceLeDiff, Nat.reducePow, Int.reducePow, Int.reduceToNat, Nat.reduceAdd, c0, eq_false t0', Int.reduceEq, decide_true, decide_false, q, eq_true q']
              refine eff_callF rfl ((sizes_any tag h3).mono ?_)
              rintro v4 h4 ⟨rfl, rfl⟩
              simp (disch := first | omega | assumption) only [C.ref1_Write_gos, T.tv, ↓reduceIte, Nat.reduceEqDiff, reduceCtorEq, Nat.reduceLeDiff, Nat.reducePow, Int.reducePow, Int.reduceToNat, Nat.reduceAdd, Int.reduceEq, decide_true, decide_false, q, eq_true q']
              exact ⟨hext3, rfl⟩
          · have q : (0 : Int) < (i : Int) := by omega
            have q' : ¬ (i : Int) = 0 := by omega
            have cp' := cp hz
            have hi1' := hi1 hz
            have hk : kt = 5 ∨ kt = 6 := by
              have : i ≠ 0 := by omega
              simpa [bigTwo, this] using he
            rcases hk with rfl | rfl
            · rw [show ((5 : Nat) : Int) = 5 from rfl] at cp'
              by_cases t0 : tag = 0
              · have c0' := c0
                rw [t0, show ((0 : Nat) : Int) = 0 from rfl] at c0'
                simp (disch := first | omega | assumption) only [C.ref1_Write_gos, T.tv, ↓reduceIte, Nat.reduceEqDiff, reduceCtorEq, Nat.reduceLeDiff, Nat.reducePow, Int.reducePow, Int.reduceToNat, Nat.reduceAdd, c0', Int.reduceEq, decide_true, decide_false, q, eq_false q', hi1', cp']
                have o0 : oneS ⟨tag, text, bits, ka, kb⟩ = [] := by simp [oneS, t0]
                exact fin out h3 i rfl (z0 t0 hE) (by rw [o0]; simp) (by rw [o0]; simp) hext3
              · have t0' : ¬ (tag : Int) = 0 := by omega
                rw [hwi, er (by rw [errL t0 hE]; decide), errL t0 hE]
                simp (disch := first | omega | assumption) only [C.ref1_Write_gos, T.tv, ↓reduceIte, Nat.reduceEqDiff, reduceCtorEq, Nat.reduceLeDiff, Nat.reducePow, Int.reducePow, Int.reduceToNat, Nat.reduceAdd, c0, eq_false t0', Int.reduceEq, decide_true, decide_false, q, eq_false q', hi1', cp']
                refine eff_callF rfl ((sizes_any tag h3).mono ?_)
                rintro v4 h4 ⟨rfl, rfl⟩
                simp (disch := first | omega | assumption) only [C.ref1_Write_gos, T.tv, ↓reduceIte, Nat.reduceEqDiff, reduceCtorEq, Nat.reduceLeDiff, Nat.reducePow, Int.reducePow, Int.reduceToNat, Nat.reduceAdd, Int.reduceEq, decide_true, decide_false, q, eq_false q', hi1', cp']
                exact ⟨hext3, rfl⟩
            · rw [show ((6 : Nat) : Int) = 6 from rfl] at cp'
              by_cases t0 : tag = 0
              · have c0' := c0
                rw [t0, show ((0 : Nat) : Int) = 0 from rfl] at c0'
                simp (disch := first | omega | assumption) only [C.ref1_Write_gos, T.tv, ↓reduceIte, Nat.reduceEqDiff, reduceCtorEq, Nat.reduceLeDiff, Nat.reducePow, Int.reducePow, Int.reduceToNat, Nat.reduceAdd, c0', Int.reduceEq, decide_true, decide_false, q, eq_false q', hi1', cp']
                have o0 : oneS ⟨tag, text, bits, ka, kb⟩ = [] := by simp [oneS, t0]
                exact fin out h3 i rfl (z0 t0 hE) (by rw [o0]; simp) (by rw [o0]; simp) hext3
              · have t0' : ¬ (tag : Int) = 0 := by omega
                rw [hwi, er (by rw [errL t0 hE]; decide), errL t0 hE]
                simp (disch := first | omega | assumption) only [C.ref1_Write_gos, T.tv, ↓reduceIte, Nat.reduceEqDiff, reduceCtorEq, Nat.reduceLeDiff, Nat.reducePow, Int.reducePow, Int.reduceToNat, Nat.reduceAdd, c0, eq_false t0', Int.reduceEq, decide_true, decide_false, q, eq_false q', hi1', cp']
                refine eff_callF rfl ((sizes_any tag h3).mono ?_)
                rintro v4 h4 ⟨rfl, rfl⟩
                simp (disch := first | omega | assumption) only [C.ref1_Write_gos, T.tv, ↓reduceIte, Nat.reduceEqDiff, reduceCtorEq, Nat.reduceLeDiff, Nat.reducePow, Int.reducePow, Int.reduceToNat, Nat.reduceAdd, Int.reduceEq, decide_true, decide_false, q, eq_false q', hi1', cp']
                exact ⟨hext3, rfl⟩
        · have hE' : e = false := by simpa using hE
          have hz : 0 < i := by
            rcases Nat.eq_zero_or_pos i with hz | hz
            · subst hz; rw [hE'] at he; simp at he
            · exact hz
          have q : (0 : Int) < (i : Int) := by omega
          have q' : ¬ (i : Int) = 0 := by omega
          have cp' := cp hz
          have hi1' := hi1 hz
          rw [hE'] at he
          have hk : ¬ (kt : Int) = 5 ∧ ¬ (kt : Int) = 6 := by
            have h1 : i ≠ 0 := by omega
            have h2 : ¬ kt = 5 ∧ ¬ kt = 6 := by simpa [bigTwo, h1] using he
            omega
          obtain ⟨hk5, hk6⟩ := hk
          clear cp hi1 z0 errL
          subst hE'
          by_cases t0 : tag = 0
          · have c0' := c0
            rw [t0, show ((0 : Nat) : Int) = 0 from rfl] at c0'
            have e5 : errS false ⟨tag, text, bits, ka, kb⟩ = 5 := by simp [errS, t0]
            rw [hwi, er (by rw [e5]; decide), e5]
            simp (disch := first | omega | assumption) only [C.ref1_Write_gos, T.tv, ↓reduceIte, Nat.reduceEqDiff, reduceCtorEq, Nat.reduceLeDiff, Nat.reducePow, Int.reducePow, Int.reduceToNat, Nat.reduceAdd, c0', Int.reduceEq, decide_true, decide_false, q, eq_false q', hi1', cp', eq_false hk5, eq_false hk6]
            refine eff_callF rfl ((sizes_any 0 h3).mono ?_)
            rintro v4 h4 ⟨rfl, rfl⟩
            rw [show sizeS 0 = -1 from rfl]
            simp (disch := first | omega | assumption) only [C.ref1_Write_gos, T.tv, ↓reduceIte, Nat.reduceEqDiff, reduceCtorEq, Nat.reduceLeDiff, Nat.reducePow, Int.reducePow, Int.reduceToNat, Nat.reduceAdd, Int.reduceEq, Int.reduceNeg, Int.reduceLT, decide_true, decide_false, eq_false q']
            exact ⟨hext3, rfl⟩
          · have t0' : ¬ (tag : Int) = 0 := by omega
            simp (disch := first | omega | assumption) only [C.ref1_Write_gos, T.tv, ↓reduceIte, Nat.reduceEqDiff, reduceCtorEq, Nat.reduceLeDiff, Nat.reducePow, Int.reducePow, Int.reduceToNat, Nat.reduceAdd, c0, eq_false t0', q, eq_false q', hi1', cp', eq_false hk5, eq_false hk6, decide_false]
            refine eff_callF rfl ((sizes_any tag h3).mono ?_)
            rintro v4 h4 ⟨rfl, rfl⟩
            by_cases t1 : tag = 1
            · subst t1
              rw [show ((1 : Nat) : Int) = 1 from rfl] at c0
              rw [show sizeS 1 = 2 from rfl]
              simp (disch := first | omega | assumption) only [C.ref1_Write_gos, T.tv, ↓reduceIte, Nat.reduceEqDiff, reduceCtorEq, Nat.reduceLeDiff, Nat.reducePow, Int.reducePow, Int.reduceToNat, Nat.reduceAdd, c0, c1, Int.reduceEq, Int.reduceLT, decide_true, decide_false, eq_false q', q]
              refine eff_callF rfl ((runits_any text h4 htx).mono ?_)
              rintro v5 h5 ⟨x4, r4⟩
              have c0' : cellAt h5 ⟨hc.size, 0, none⟩ = some (.int .u8 1) := by rw [x4.cell hlt3 id]; exact c0
              have c1' : cellAt h5 ⟨hc.size, 1, none⟩ = some (str text) := by rw [x4.cell hlt3 id]; exact c1
              have hext4 := hext3.trans x4
              cases hu : unitsS text with
              | none =>
                rw [hu] at r4
                simp only [URes] at r4
                subst r4
                have e6 : errS false ⟨1, text, bits, ka, kb⟩ = 6 := by simp [errS, hu]
                rw [hwi, er (by rw [e6]; decide), e6]
                simp (disch := first | omega | assumption) only [C.ref1_Write_gos, T.tv, ↓reduceIte, Nat.reduceEqDiff, reduceCtorEq, Nat.reduceLeDiff, Nat.reducePow, Int.reducePow, Int.reduceToNat, Nat.reduceAdd]
                exact ⟨hext4, rfl⟩
              | some us =>
                rw [hu] at r4
                simp only [URes] at r4
                obtain ⟨sv4, rfl, _⟩ := r4
                by_cases hbig2 : 65535 < text.length
                · have hbig2' : (65535 : Int) < text.length := by omega
                  have e12 : errS false ⟨1, text, bits, ka, kb⟩ = 12 := by simp [errS, hu, hbig2]
                  rw [hwi, er (by rw [e12]; decide), e12]
                  simp (disch := first | omega | assumption) only [C.ref1_Write_gos, T.tv, ↓reduceIte, Nat.reduceEqDiff, reduceCtorEq, Nat.reduceLeDiff, Nat.reducePow, Int.reducePow, Int.reduceToNat, Nat.reduceAdd, c1', hbig2']
                  exact ⟨hext4, rfl⟩
                · have hbig2' : ¬ (65535 : Int) < text.length := by omega
                  have hw5 : IntKind.u64.wrap (text.length : Int) = (text.length : Int) := wrap_u64 (by omega) (by omega)
                  simp (disch := first | omega | assumption) only [C.ref1_Write_gos, T.tv, ↓reduceIte, Nat.reduceEqDiff, reduceCtorEq, Nat.reduceLeDiff, Nat.reducePow, Int.reducePow, Int.reduceToNat, Nat.reduceAdd, c0', c1', hbig2', hw5]
                  refine eff_callF rfl ((rbig_any text.length 2 h5 (by omega) (by omega)).mono ?_)
                  rintro v6 h6 ⟨x6, rfl⟩
                  have c0'' : cellAt h6 ⟨hc.size, 0, none⟩ = some (.int .u8 1) := by rw [x6.cell (Nat.lt_of_lt_of_le hlt3 x4.size) id]; exact c0'
                  have c1'' : cellAt h6 ⟨hc.size, 1, none⟩ = some (str text) := by rw [x6.cell (Nat.lt_of_lt_of_le hlt3 x4.size) id]; exact c1'
                  have a1 : (bigS text.length 2).length + text.length ≤ 9223372036854775807 := by rw [bigS_len]; omega
                  simp (disch := first | omega | assumption) only [C.ref1_Write_gos, T.tv, ↓reduceIte, Nat.reduceEqDiff, reduceCtorEq, Nat.reduceLeDiff, Nat.reducePow, Int.reducePow, Int.reduceToNat, Nat.reduceAdd, c0'', c1'', a1, Int.reduceEq, decide_true, decide_false]
                  refine eff_lits T.slT_69 rfl rfl (by decide) ?_
                  have e0' : errS false ⟨1, text, bits, ka, kb⟩ = 0 := by simp [errS, hu, hbig2]
                  have one1 : oneS ⟨1, text, bits, ka, kb⟩ = UInt8.ofNat 1 :: (bigS text.length 2 ++ text) := by simp [oneS, bodyS]
                  have l1 : (UInt8.ofNat 1 :: (bigS text.length 2 ++ text)).length ≤ 65600 := by simp [bigS_len]; omega
                  have a2 : [UInt8.ofNat 1].length + (bigS text.length 2 ++ text).length ≤ 9223372036854775807 := by simp [bigS_len]; omega
                  have a3 : out.length + (UInt8.ofNat 1 :: (bigS text.length 2 ++ text)).length ≤ 9223372036854775807 := by omega
                  simp (disch := first | omega | assumption) only [C.ref1_Write_gos, T.tv, ↓reduceIte, Nat.reduceEqDiff, reduceCtorEq, Nat.reduceLeDiff, Nat.reducePow, Int.reducePow, Int.reduceToNat, Nat.reduceAdd, a2, a3]
                  exact fin _ _ i rfl e0' (by rw [one1]) (by rw [one1]; exact l1) ((hext4.trans x6).trans (Ext.push _ _))
            by_cases t3 : tag = 3
            · subst t3
              rw [show ((3 : Nat) : Int) = 3 from rfl] at c0
              rw [show sizeS 3 = 4 from rfl]
              have hb64 : bits < 18446744073709551616 := hfit.bits
              by_cases hbb : 4294967296 ≤ bits
              · have hbb' : (4294967296 : Int) ≤ (bits : Int) := by omega
                have e12 : errS false ⟨3, text, bits, ka, kb⟩ = 12 := by simp [errS, hbb]
                rw [hwi, er (by rw [e12]; decide), e12]
                simp (disch := first | omega | assumption) only [C.ref1_Write_gos, T.tv, ↓reduceIte, Nat.reduceEqDiff, reduceCtorEq, Nat.reduceLeDiff, Nat.reducePow, Int.reducePow, Int.reduceToNat, Nat.reduceAdd, c0, c2, hbb', Int.reduceEq, Int.reduceLT, decide_true, decide_false, eq_false q', q]
                exact ⟨hext3, rfl⟩
              have hbb' : ¬ (4294967296 : Int) ≤ (bits : Int) := by omega
              have e00 : errS false ⟨3, text, bits, ka, kb⟩ = 0 := by simp [errS, hbb]
              simp (disch := first | omega | assumption) only [C.ref1_Write_gos, T.tv, ↓reduceIte, Nat.reduceEqDiff, reduceCtorEq, Nat.reduceLeDiff, Nat.reducePow, Int.reducePow, Int.reduceToNat, Nat.reduceAdd, c0, c2, c3, Int.reduceEq, Int.reduceLT, decide_true, decide_false, eq_false q', q, hbb']
              refine eff_callF rfl ((rbig_any bits 4 h4 (by have := hfit.bits; simp only at this; omega) (by omega)).mono ?_)
              rintro v6 h6 ⟨x6, rfl⟩
              have b6 := Fr_blk x6 b3 id
              have k0 : cellAt h6 ⟨hc.size, 0, none⟩ = some (.int .u8 3) := by rw [cellAt_of b6]; rfl
              have k4 : cellAt h6 ⟨hc.size, 4, none⟩ = some (.int .u16 (kb : Int)) := by rw [cellAt_of b6]; rfl
              simp (disch := first | omega | assumption) only [C.ref1_Write_gos, T.tv, ↓reduceIte, Nat.reduceEqDiff, reduceCtorEq, Nat.reduceLeDiff, Nat.reducePow, Int.reducePow, Int.reduceToNat, Nat.reduceAdd, k0, k4, Int.reduceEq, Int.reduceLT, decide_true, decide_false, eq_false q', q, hbb']
              refine eff_lits T.slT_69 rfl rfl (by decide) ?_
              have one1 : oneS ⟨3, text, bits, ka, kb⟩ = UInt8.ofNat 3 :: (bigS bits 4) := by simp [oneS, bodyS]
              have l1 : (UInt8.ofNat 3 :: (bigS bits 4)).length ≤ 65600 := by simp [bigS_len]
              have a2 : [UInt8.ofNat 3].length + (bigS bits 4).length ≤ 9223372036854775807 := by simp [bigS_len]
              have a3 : out.length + (UInt8.ofNat 3 :: (bigS bits 4)).length ≤ 9223372036854775807 := by omega
              simp (disch := first | omega | assumption) only [C.ref1_Write_gos, T.tv, ↓reduceIte, Nat.reduceEqDiff, reduceCtorEq, Nat.reduceLeDiff, Nat.reducePow, Int.reducePow, Int.reduceToNat, Nat.reduceAdd, a2, a3]
              exact fin _ _ i rfl e00 (by rw [one1]) (by rw [one1]; exact l1) ((hext3.trans x6).trans (Ext.push _ _))
            by_cases t4 : tag = 4
            · subst t4
              rw [show ((4 : Nat) : Int) = 4 from rfl] at c0
              rw [show sizeS 4 = 4 from rfl]
              have hb64 : bits < 18446744073709551616 := hfit.bits
              by_cases hbb : 4294967296 ≤ bits
              · have hbb' : (4294967296 : Int) ≤ (bits : Int) := by omega
                have e12 : errS false ⟨4, text, bits, ka, kb⟩ = 12 := by simp [errS, hbb]
                rw [hwi, er (by rw [e12]; decide), e12]
                simp (disch := first | omega | assumption) only [C.ref1_Write_gos, T.tv, ↓reduceIte, Nat.reduceEqDiff, reduceCtorEq, Nat.reduceLeDiff, Nat.reducePow, Int.reducePow, Int.reduceToNat, Nat.reduceAdd, c0, c2, hbb', Int.reduceEq, Int.reduceLT, decide_true, decide_false, eq_false q', q]
                exact ⟨hext3, rfl⟩
              have hbb' : ¬ (4294967296 : Int) ≤ (bits : Int) := by omega
              have e00 : errS false ⟨4, text, bits, ka, kb⟩ = 0 := by simp [errS, hbb]
              simp (disch := first | omega | assumption) only [C.ref1_Write_gos, T.tv, ↓reduceIte, Nat.reduceEqDiff, reduceCtorEq, Nat.reduceLeDiff, Nat.reducePow, Int.reducePow, Int.reduceToNat, Nat.reduceAdd, c0, c2, c3, Int.reduceEq, Int.reduceLT, decide_true, decide_false, eq_false q', q, hbb']
              refine eff_callF rfl ((rbig_any bits 4 h4 (by have := hfit.bits; simp only at this; omega) (by omega)).mono ?_)
              rintro v6 h6 ⟨x6, rfl⟩
              have b6 := Fr_blk x6 b3 id
              have k0 : cellAt h6 ⟨hc.size, 0, none⟩ = some (.int .u8 4) := by rw [cellAt_of b6]; rfl
              have k4 : cellAt h6 ⟨hc.size, 4, none⟩ = some (.int .u16 (kb : Int)) := by rw [cellAt_of b6]; rfl
              simp (disch := first | omega | assumption) only [C.ref1_Write_gos, T.tv, ↓reduceIte, Nat.reduceEqDiff, reduceCtorEq, Nat.reduceLeDiff, Nat.reducePow, Int.reducePow, Int.reduceToNat, Nat.reduceAdd, k0, k4, Int.reduceEq, Int.reduceLT, decide_true, decide_false, eq_false q', q, hbb']
              refine eff_lits T.slT_69 rfl rfl (by decide) ?_
              have one1 : oneS ⟨4, text, bits, ka, kb⟩ = UInt8.ofNat 4 :: (bigS bits 4) := by simp [oneS, bodyS]
              have l1 : (UInt8.ofNat 4 :: (bigS bits 4)).length ≤ 65600 := by simp [bigS_len]
              have a2 : [UInt8.ofNat 4].length + (bigS bits 4).length ≤ 9223372036854775807 := by simp [bigS_len]
              have a3 : out.length + (UInt8.ofNat 4 :: (bigS bits 4)).length ≤ 9223372036854775807 := by omega
              simp (disch := first | omega | assumption) only [C.ref1_Write_gos, T.tv, ↓reduceIte, Nat.reduceEqDiff, reduceCtorEq, Nat.reduceLeDiff, Nat.reducePow, Int.reducePow, Int.reduceToNat, Nat.reduceAdd, a2, a3]
              exact fin _ _ i rfl e00 (by rw [one1]) (by rw [one1]; exact l1) ((hext3.trans x6).trans (Ext.push _ _))
            by_cases t5 : tag = 5
            · subst t5
              rw [show ((5 : Nat) : Int) = 5 from rfl] at c0
              rw [show sizeS 5 = 8 from rfl]
              have e00 : errS false ⟨5, text, bits, ka, kb⟩ = 0 := by simp [errS]
              simp (disch := first | omega | assumption) only [C.ref1_Write_gos, T.tv, ↓reduceIte, Nat.reduceEqDiff, reduceCtorEq, Nat.reduceLeDiff, Nat.reducePow, Int.reducePow, Int.reduceToNat, Nat.reduceAdd, c0, c2, c3, Int.reduceEq, Int.reduceLT, decide_true, decide_false, eq_false q', q]
              refine eff_callF rfl ((rbig_any bits 8 h4 (by have := hfit.bits; simp only at this; omega) (by omega)).mono ?_)
              rintro v6 h6 ⟨x6, rfl⟩
              have b6 := Fr_blk x6 b3 id
              have k0 : cellAt h6 ⟨hc.size, 0, none⟩ = some (.int .u8 5) := by rw [cellAt_of b6]; rfl
              have k4 : cellAt h6 ⟨hc.size, 4, none⟩ = some (.int .u16 (kb : Int)) := by rw [cellAt_of b6]; rfl
              simp (disch := first | omega | assumption) only [C.ref1_Write_gos, T.tv, ↓reduceIte, Nat.reduceEqDiff, reduceCtorEq, Nat.reduceLeDiff, Nat.reducePow, Int.reducePow, Int.reduceToNat, Nat.reduceAdd, k0, k4, Int.reduceEq, Int.reduceLT, decide_true, decide_false, eq_false q', q]
              refine eff_lits T.slT_69 rfl rfl (by decide) ?_
              have one1 : oneS ⟨5, text, bits, ka, kb⟩ = UInt8.ofNat 5 :: (bigS bits 8) := by simp [oneS, bodyS]
              have l1 : (UInt8.ofNat 5 :: (bigS bits 8)).length ≤ 65600 := by simp [bigS_len]
              have a2 : [UInt8.ofNat 5].length + (bigS bits 8).length ≤ 9223372036854775807 := by simp [bigS_len]
              have a3 : out.length + (UInt8.ofNat 5 :: (bigS bits 8)).length ≤ 9223372036854775807 := by omega
              simp (disch := first | omega | assumption) only [C.ref1_Write_gos, T.tv, ↓reduceIte, Nat.reduceEqDiff, reduceCtorEq, Nat.reduceLeDiff, Nat.reducePow, Int.reducePow, Int.reduceToNat, Nat.reduceAdd, a2, a3]
              exact fin _ _ i rfl e00 (by rw [one1]) (by rw [one1]; exact l1) ((hext3.trans x6).trans (Ext.push _ _))
            by_cases t6 : tag = 6
            · subst t6
              rw [show ((6 : Nat) : Int) = 6 from rfl] at c0
              rw [show sizeS 6 = 8 from rfl]
              have e00 : errS false ⟨6, text, bits, ka, kb⟩ = 0 := by simp [errS]
              simp (disch := first | omega | assumption) only [C.ref1_Write_gos, T.tv, ↓reduceIte, Nat.reduceEqDiff, reduceCtorEq, Nat.reduceLeDiff, Nat.reducePow, Int.reducePow, Int.reduceToNat, Nat.reduceAdd, c0, c2, c3, Int.reduceEq, Int.reduceLT, decide_true, decide_false, eq_false q', q]
              refine eff_callF rfl ((rbig_any bits 8 h4 (by have := hfit.bits; simp only at this; omega) (by omega)).mono ?_)
              rintro v6 h6 ⟨x6, rfl⟩
              have b6 := Fr_blk x6 b3 id
              have k0 : cellAt h6 ⟨hc.size, 0, none⟩ = some (.int .u8 6) := by rw [cellAt_of b6]; rfl
              have k4 : cellAt h6 ⟨hc.size, 4, none⟩ = some (.int .u16 (kb : Int)) := by rw [cellAt_of b6]; rfl
              simp (disch := first | omega | assumption) only [C.ref1_Write_gos, T.tv, ↓reduceIte, Nat.reduceEqDiff, reduceCtorEq, Nat.reduceLeDiff, Nat.reducePow, Int.reducePow, Int.reduceToNat, Nat.reduceAdd, k0, k4, Int.reduceEq, Int.reduceLT, decide_true, decide_false, eq_false q', q]
              refine eff_lits T.slT_69 rfl rfl (by decide) ?_
              have one1 : oneS ⟨6, text, bits, ka, kb⟩ = UInt8.ofNat 6 :: (bigS bits 8) := by simp [oneS, bodyS]
              have l1 : (UInt8.ofNat 6 :: (bigS bits 8)).length ≤ 65600 := by simp [bigS_len]
              have a2 : [UInt8.ofNat 6].length + (bigS bits 8).length ≤ 9223372036854775807 := by simp [bigS_len]
              have a3 : out.length + (UInt8.ofNat 6 :: (bigS bits 8)).length ≤ 9223372036854775807 := by omega
              simp (disch := first | omega | assumption) only [C.ref1_Write_gos, T.tv, ↓reduceIte, Nat.reduceEqDiff, reduceCtorEq, Nat.reduceLeDiff, Nat.reducePow, Int.reducePow, Int.reduceToNat, Nat.reduceAdd, a2, a3]
              exact fin _ _ i rfl e00 (by rw [one1]) (by rw [one1]; exact l1) ((hext3.trans x6).trans (Ext.push _ _))
            by_cases t7 : tag = 7
            · subst t7
              rw [show ((7 : Nat) : Int) = 7 from rfl] at c0
              rw [show sizeS 7 = 2 from rfl]
              have wa : IntKind.u64.wrap (ka : Int) = (ka : Int) := wrap_u64 (by omega) (by have := hfit.a; simp only at this; omega)
              have e00 : errS false ⟨7, text, bits, ka, kb⟩ = 0 := by simp [errS]
              simp (disch := first | omega | assumption) only [C.ref1_Write_gos, T.tv, ↓reduceIte, Nat.reduceEqDiff, reduceCtorEq, Nat.reduceLeDiff, Nat.reducePow, Int.reducePow, Int.reduceToNat, Nat.reduceAdd, c0, c2, c3, Int.reduceEq, Int.reduceLT, decide_true, decide_false, eq_false q', q, wa]
              refine eff_callF rfl ((rbig_any ka 2 h4 (by have := hfit.a; simp only at this; omega) (by omega)).mono ?_)
              rintro v6 h6 ⟨x6, rfl⟩
              have b6 := Fr_blk x6 b3 id
              have k0 : cellAt h6 ⟨hc.size, 0, none⟩ = some (.int .u8 7) := by rw [cellAt_of b6]; rfl
              have k4 : cellAt h6 ⟨hc.size, 4, none⟩ = some (.int .u16 (kb : Int)) := by rw [cellAt_of b6]; rfl
              simp (disch := first | omega | assumption) only [C.ref1_Write_gos, T.tv, ↓reduceIte, Nat.reduceEqDiff, reduceCtorEq, Nat.reduceLeDiff, Nat.reducePow, Int.reducePow, Int.reduceToNat, Nat.reduceAdd, k0, k4, Int.reduceEq, Int.reduceLT, decide_true, decide_false, eq_false q', q, wa]
              refine eff_lits T.slT_69 rfl rfl (by decide) ?_
              have one1 : oneS ⟨7, text, bits, ka, kb⟩ = UInt8.ofNat 7 :: (bigS ka 2) := by simp [oneS, bodyS]
              have l1 : (UInt8.ofNat 7 :: (bigS ka 2)).length ≤ 65600 := by simp [bigS_len]
              have a2 : [UInt8.ofNat 7].length + (bigS ka 2).length ≤ 9223372036854775807 := by simp [bigS_len]
              have a3 : out.length + (UInt8.ofNat 7 :: (bigS ka 2)).length ≤ 9223372036854775807 := by omega
              simp (disch := first | omega | assumption) only [C.ref1_Write_gos, T.tv, ↓reduceIte, Nat.reduceEqDiff, reduceCtorEq, Nat.reduceLeDiff, Nat.reducePow, Int.reducePow, Int.reduceToNat, Nat.reduceAdd, a2, a3]
              exact fin _ _ i rfl e00 (by rw [one1]) (by rw [one1]; exact l1) ((hext3.trans x6).trans (Ext.push _ _))
            by_cases t8 : tag = 8
            · subst t8
              rw [show ((8 : Nat) : Int) = 8 from rfl] at c0
              rw [show sizeS 8 = 2 from rfl]
              have wa : IntKind.u64.wrap (ka : Int) = (ka : Int) := wrap_u64 (by omega) (by have := hfit.a; simp only at this; omega)
              have e00 : errS false ⟨8, text, bits, ka, kb⟩ = 0 := by simp [errS]
              simp (disch := first | omega | assumption) only [C.ref1_Write_gos, T.tv, ↓reduceIte, Nat.reduceEqDiff, reduceCtorEq, Nat.reduceLeDiff, Nat.reducePow, Int.reducePow, Int.reduceToNat, Nat.reduceAdd, c0, c2, c3, Int.reduceEq, Int.reduceLT, decide_true, decide_false, eq_false q', q, wa]
              refine eff_callF rfl ((rbig_any ka 2 h4 (by have := hfit.a; simp only at this; omega) (by omega)).mono ?_)
              rintro v6 h6 ⟨x6, rfl⟩
              have b6 := Fr_blk x6 b3 id
              have k0 : cellAt h6 ⟨hc.size, 0, none⟩ = some (.int .u8 8) := by rw [cellAt_of b6]; rfl
              have k4 : cellAt h6 ⟨hc.size, 4, none⟩ = some (.int .u16 (kb : Int)) := by rw [cellAt_of b6]; rfl
              simp (disch := first | omega | assumption) only [C.ref1_Write_gos, T.tv, ↓reduceIte, Nat.reduceEqDiff, reduceCtorEq, Nat.reduceLeDiff, Nat.reducePow, Int.reducePow, Int.reduceToNat, Nat.reduceAdd, k0, k4, Int.reduceEq, Int.reduceLT, decide_true, decide_false, eq_false q', q, wa]
              refine eff_lits T.slT_69 rfl rfl (by decide) ?_
              have one1 : oneS ⟨8, text, bits, ka, kb⟩ = UInt8.ofNat 8 :: (bigS ka 2) := by simp [oneS, bodyS]
              have l1 : (UInt8.ofNat 8 :: (bigS ka 2)).length ≤ 65600 := by simp [bigS_len]
              have a2 : [UInt8.ofNat 8].length + (bigS ka 2).length ≤ 9223372036854775807 := by simp [bigS_len]
              have a3 : out.length + (UInt8.ofNat 8 :: (bigS ka 2)).length ≤ 9223372036854775807 := by omega
              simp (disch := first | omega | assumption) only [C.ref1_Write_gos, T.tv, ↓reduceIte, Nat.reduceEqDiff, reduceCtorEq, Nat.reduceLeDiff, Nat.reducePow, Int.reducePow, Int.reduceToNat, Nat.reduceAdd, a2, a3]
              exact fin _ _ i rfl e00 (by rw [one1]) (by rw [one1]; exact l1) ((hext3.trans x6).trans (Ext.push _ _))
            by_cases t9 : tag = 9
            · subst t9
              rw [show ((9 : Nat) : Int) = 9 from rfl] at c0
              rw [show sizeS 9 = 4 from rfl]
              have wa : IntKind.u64.wrap (ka : Int) = (ka : Int) := wrap_u64 (by omega) (by have := hfit.a; simp only at this; omega)
              have e00 : errS false ⟨9, text, bits, ka, kb⟩ = 0 := by simp [errS]
              simp (disch := first | omega | assumption) only [C.ref1_Write_gos, T.tv, ↓reduceIte, Nat.reduceEqDiff, reduceCtorEq, Nat.reduceLeDiff, Nat.reducePow, Int.reducePow, Int.reduceToNat, Nat.reduceAdd, c0, c2, c3, Int.reduceEq, Int.reduceLT, decide_true, decide_false, eq_false q', q, wa]
              refine eff_callF rfl ((rbig_any ka 2 h4 (by have := hfit.a; simp only at this; omega) (by omega)).mono ?_)
              rintro v6 h6 ⟨x6, rfl⟩
              have b6 := Fr_blk x6 b3 id
              have k0 : cellAt h6 ⟨hc.size, 0, none⟩ = some (.int .u8 9) := by rw [cellAt_of b6]; rfl
              have k4 : cellAt h6 ⟨hc.size, 4, none⟩ = some (.int .u16 (kb : Int)) := by rw [cellAt_of b6]; rfl
              simp (disch := first | omega | assumption) only [C.ref1_Write_gos, T.tv, ↓reduceIte, Nat.reduceEqDiff, reduceCtorEq, Nat.reduceLeDiff, Nat.reducePow, Int.reducePow, Int.reduceToNat, Nat.reduceAdd, k0, k4, Int.reduceEq, Int.reduceLT, decide_true, decide_false, eq_false q', q, wa]
              have wb : IntKind.u64.wrap (kb : Int) = (kb : Int) := wrap_u64 (by omega) (by have := hfit.b; simp only at this; omega)
              simp (disch := first | omega | assumption) only [C.ref1_Write_gos, T.tv, ↓reduceIte, Nat.reduceEqDiff, reduceCtorEq, Nat.reduceLeDiff, Nat.reducePow, Int.reducePow, Int.reduceToNat, Nat.reduceAdd, wb, Int.reduceEq, Int.reduceLT, decide_true, decide_false, eq_false q', q, wa]
              refine eff_callF rfl ((rbig_any kb 2 h6 (by have := hfit.b; simp only at this; omega) (by omega)).mono ?_)
              rintro v7 h7 ⟨x7, rfl⟩
              have k0' : cellAt h7 ⟨hc.size, 0, none⟩ = some (.int .u8 9) := by rw [cellAt_of (Fr_blk x7 b6 id)]; rfl
              have a1 : (bigS ka 2).length + (bigS kb 2).length ≤ 9223372036854775807 := by simp only [bigS_len]; omega
              simp (disch := first | omega | assumption) only [C.ref1_Write_gos, T.tv, ↓reduceIte, Nat.reduceEqDiff, reduceCtorEq, Nat.reduceLeDiff, Nat.reducePow, Int.reducePow, Int.reduceToNat, Nat.reduceAdd, k0', a1]
              refine eff_lits T.slT_69 rfl rfl (by decide) ?_
              have one1 : oneS ⟨9, text, bits, ka, kb⟩ = UInt8.ofNat 9 :: (bigS ka 2 ++ bigS kb 2) := by simp [oneS, bodyS]
              have l1 : (UInt8.ofNat 9 :: (bigS ka 2 ++ bigS kb 2)).length ≤ 65600 := by simp [bigS_len]
              have a2 : [UInt8.ofNat 9].length + (bigS ka 2 ++ bigS kb 2).length ≤ 9223372036854775807 := by simp [bigS_len]
              have a3 : out.length + (UInt8.ofNat 9 :: (bigS ka 2 ++ bigS kb 2)).length ≤ 9223372036854775807 := by omega
              simp (disch := first | omega | assumption) only [C.ref1_Write_gos, T.tv, ↓reduceIte, Nat.reduceEqDiff, reduceCtorEq, Nat.reduceLeDiff, Nat.reducePow, Int.reducePow, Int.reduceToNat, Nat.reduceAdd, a2, a3]
              exact fin _ _ i rfl e00 (by rw [one1]) (by rw [one1]; exact l1) (((hext3.trans x6).trans x7).trans (Ext.push _ _))
            by_cases t10 : tag = 10
            · subst t10
              rw [show ((10 : Nat) : Int) = 10 from rfl] at c0
              rw [show sizeS 10 = 4 from rfl]
              have wa : IntKind.u64.wrap (ka : Int) = (ka : Int) := wrap_u64 (by omega) (by have := hfit.a; simp only at this; omega)
              have e00 : errS false ⟨10, text, bits, ka, kb⟩ = 0 := by simp [errS]
              simp (disch := first | omega | assumption) only [C.ref1_Write_gos, T.tv, ↓reduceIte, Nat.reduceEqDiff, reduceCtorEq, Nat.reduceLeDiff, Nat.reducePow, Int.reducePow, Int.reduceToNat, Nat.reduceAdd, c0, c2, c3, Int.reduceEq, Int.reduceLT, decide_true, decide_false, eq_false q', q, wa]
              refine eff_callF rfl ((rbig_any ka 2 h4 (by have := hfit.a; simp only at this; omega) (by omega)).mono ?_)
              rintro v6 h6 ⟨x6, rfl⟩
              have b6 := Fr_blk x6 b3 id
              have k0 : cellAt h6 ⟨hc.size, 0, none⟩ = some (.int .u8 10) := by rw [cellAt_of b6]; rfl
              have k4 : cellAt h6 ⟨hc.size, 4, none⟩ = some (.int .u16 (kb : Int)) := by rw [cellAt_of b6]; rfl
              simp (disch := first | omega | assumption) only [C.ref1_Write_gos, T.tv, ↓reduceIte, Nat.reduceEqDiff, reduceCtorEq, Nat.reduceLeDiff, Nat.reducePow, Int.reducePow, Int.reduceToNat, Nat.reduceAdd, k0, k4, Int.reduceEq, Int.reduceLT, decide_true, decide_false, eq_false q', q, wa]
              have wb : IntKind.u64.wrap (kb : Int) = (kb : Int) := wrap_u64 (by omega) (by have := hfit.b; simp only at this; omega)
              simp (disch := first | omega | assumption) only [C.ref1_Write_gos, T.tv, ↓reduceIte, Nat.reduceEqDiff, reduceCtorEq, Nat.reduceLeDiff, Nat.reducePow, Int.reducePow, Int.reduceToNat, Nat.reduceAdd, wb, Int.reduceEq, Int.reduceLT, decide_true, decide_false, eq_false q', q, wa]
              refine eff_callF rfl ((rbig_any kb 2 h6 (by have := hfit.b; simp only at this; omega) (by omega)).mono ?_)
              rintro v7 h7 ⟨x7, rfl⟩
              have k0' : cellAt h7 ⟨hc.size, 0, none⟩ = some (.int .u8 10) := by rw [cellAt_of (Fr_blk x7 b6 id)]; rfl
              have a1 : (bigS ka 2).length + (bigS kb 2).length ≤ 9223372036854775807 := by simp only [bigS_len]; omega
              simp (disch := first | omega | assumption) only [C.ref1_Write_gos, T.tv, ↓reduceIte, Nat.reduceEqDiff, reduceCtorEq, Nat.reduceLeDiff, Nat.reducePow, Int.reducePow, Int.reduceToNat, Nat.reduceAdd, k0', a1]
              refine eff_lits T.slT_69 rfl rfl (by decide) ?_
              have one1 : oneS ⟨10, text, bits, ka, kb⟩ = UInt8.ofNat 10 :: (bigS ka 2 ++ bigS kb 2) := by simp [oneS, bodyS]
              have l1 : (UInt8.ofNat 10 :: (bigS ka 2 ++ bigS kb 2)).length ≤ 65600 := by simp [bigS_len]
              have a2 : [UInt8.ofNat 10].length + (bigS ka 2 ++ bigS kb 2).length ≤ 9223372036854775807 := by simp [bigS_len]
              have a3 : out.length + (UInt8.ofNat 10 :: (bigS ka 2 ++ bigS kb 2)).length ≤ 9223372036854775807 := by omega
              simp (disch := first | omega | assumption) only [C.ref1_Write_gos, T.tv, ↓reduceIte, Nat.reduceEqDiff, reduceCtorEq, Nat.reduceLeDiff, Nat.reducePow, Int.reducePow, Int.reduceToNat, Nat.reduceAdd, a2, a3]
              exact fin _ _ i rfl e00 (by rw [one1]) (by rw [one1]; exact l1) (((hext3.trans x6).trans x7).trans (Ext.push _ _))
            by_cases t11 : tag = 11
            · subst t11
              rw [show ((11 : Nat) : Int) = 11 from rfl] at c0
              rw [show sizeS 11 = 4 from rfl]
              have wa : IntKind.u64.wrap (ka : Int) = (ka : Int) := wrap_u64 (by omega) (by have := hfit.a; simp only at this; omega)
              have e00 : errS false ⟨11, text, bits, ka, kb⟩ = 0 := by simp [errS]
              simp (disch := first | omega | assumption) only [C.ref1_Write_gos, T.tv, ↓reduceIte, Nat.reduceEqDiff, reduceCtorEq, Nat.reduceLeDiff, Nat.reducePow, Int.reducePow, Int.reduceToNat, Nat.reduceAdd, c0, c2, c3, Int.reduceEq, Int.reduceLT, decide_true, decide_false, eq_false q', q, wa]
              refine eff_callF rfl ((rbig_any ka 2 h4 (by have := hfit.a; simp only at this; omega) (by omega)).mono ?_)
              rintro v6 h6 ⟨x6, rfl⟩
              have b6 := Fr_blk x6 b3 id
              have k0 : cellAt h6 ⟨hc.size, 0, none⟩ = some (.int .u8 11) := by rw [cellAt_of b6]; rfl
              have k4 : cellAt h6 ⟨hc.size, 4, none⟩ = some (.int .u16 (kb : Int)) := by rw [cellAt_of b6]; rfl
              simp (disch := first | omega | assumption) only [C.ref1_Write_gos, T.tv, ↓reduceIte, Nat.reduceEqDiff, reduceCtorEq, Nat.reduceLeDiff, Nat.reducePow, Int.reducePow, Int.reduceToNat, Nat.reduceAdd, k0, k4, Int.reduceEq, Int.reduceLT, decide_true, decide_false, eq_false q', q, wa]
              have wb : IntKind.u64.wrap (kb : Int) = (kb : Int) := wrap_u64 (by omega) (by have := hfit.b; simp only at this; omega)
              simp (disch := first | omega | assumption) only [C.ref1_Write_gos, T.tv, ↓reduceIte, Nat.reduceEqDiff, reduceCtorEq, Nat.reduceLeDiff, Nat.reducePow, Int.reducePow, Int.reduceToNat, Nat.reduceAdd, wb, Int.reduceEq, Int.reduceLT, decide_true, decide_false, eq_false q', q, wa]
              refine eff_callF rfl ((rbig_any kb 2 h6 (by have := hfit.b; simp only at this; omega) (by omega)).mono ?_)
              rintro v7 h7 ⟨x7, rfl⟩
              have k0' : cellAt h7 ⟨hc.size, 0, none⟩ = some (.int .u8 11) := by rw [cellAt_of (Fr_blk x7 b6 id)]; rfl
              have a1 : (bigS ka 2).length + (bigS kb 2).length ≤ 9223372036854775807 := by simp only [bigS_len]; omega
              simp (disch := first | omega | assumption) only [C.ref1_Write_gos, T.tv, ↓reduceIte, Nat.reduceEqDiff, reduceCtorEq, Nat.reduceLeDiff, Nat.reducePow, Int.reducePow, Int.reduceToNat, Nat.reduceAdd, k0', a1]
              refine eff_lits T.slT_69 rfl rfl (by decide) ?_
              have one1 : oneS ⟨11, text, bits, ka, kb⟩ = UInt8.ofNat 11 :: (bigS ka 2 ++ bigS kb 2) := by simp [oneS, bodyS]
              have l1 : (UInt8.ofNat 11 :: (bigS ka 2 ++ bigS kb 2)).length ≤ 65600 := by simp [bigS_len]
              have a2 : [UInt8.ofNat 11].length + (bigS ka 2 ++ bigS kb 2).length ≤ 9223372036854775807 := by simp [bigS_len]
              have a3 : out.length + (UInt8.ofNat 11 :: (bigS ka 2 ++ bigS kb 2)).length ≤ 9223372036854775807 := by omega
              simp (disch := first | omega | assumption) only [C.ref1_Write_gos, T.tv, ↓reduceIte, Nat.reduceEqDiff, reduceCtorEq, Nat.reduceLeDiff, Nat.reducePow, Int.reducePow, Int.reduceToNat, Nat.reduceAdd, a2, a3]
              exact fin _ _ i rfl e00 (by rw [one1]) (by rw [one1]; exact l1) (((hext3.trans x6).trans x7).trans (Ext.push _ _))
            by_cases t12 : tag = 12
            · subst t12
              rw [show ((12 : Nat) : Int) = 12 from rfl] at c0
              rw [show sizeS 12 = 4 from rfl]
              have wa : IntKind.u64.wrap (ka : Int) = (ka : Int) := wrap_u64 (by omega) (by have := hfit.a; simp only at this; omega)
              have e00 : errS false ⟨12, text, bits, ka, kb⟩ = 0 := by simp [errS]
              simp (disch := first | omega | assumption) only [C.ref1_Write_gos, T.tv, ↓reduceIte, Nat.reduceEqDiff, reduceCtorEq, Nat.reduceLeDiff, Nat.reducePow, Int.reducePow, Int.reduceToNat, Nat.reduceAdd, c0, c2, c3, Int.reduceEq, Int.reduceLT, decide_true, decide_false, eq_false q', q, wa]
              refine eff_callF rfl ((rbig_any ka 2 h4 (by have := hfit.a; simp only at this; omega) (by omega)).mono ?_)
              rintro v6 h6 ⟨x6, rfl⟩
              have b6 := Fr_blk x6 b3 id
              have k0 : cellAt h6 ⟨hc.size, 0, none⟩ = some (.int .u8 12) := by rw [cellAt_of b6]; rfl
              have k4 : cellAt h6 ⟨hc.size, 4, none⟩ = some (.int .u16 (kb : Int)) := by rw [cellAt_of b6]; rfl
              simp (disch := first | omega | assumption) only [C.ref1_Write_gos, T.tv, ↓reduceIte, Nat.reduceEqDiff, reduceCtorEq, Nat.reduceLeDiff, Nat.reducePow, Int.reducePow, Int.reduceToNat, Nat.reduceAdd, k0, k4, Int.reduceEq, Int.reduceLT, decide_true, decide_false, eq_false q', q, wa]
              have wb : IntKind.u64.wrap (kb : Int) = (kb : Int) := wrap_u64 (by omega) (by have := hfit.b; simp only at this; omega)
              simp (disch := first | omega | assumption) only [C.ref1_Write_gos, T.tv, ↓reduceIte, Nat.reduceEqDiff, reduceCtorEq, Nat.reduceLeDiff, Nat.reducePow, Int.reducePow, Int.reduceToNat, Nat.reduceAdd, wb, Int.reduceEq, Int.reduceLT, decide_true, decide_false, eq_false q', q, wa]
              refine eff_callF rfl ((rbig_any kb 2 h6 (by have := hfit.b; simp only at this; omega) (by omega)).mono ?_)
              rintro v7 h7 ⟨x7, rfl⟩
              have k0' : cellAt h7 ⟨hc.size, 0, none⟩ = some (.int .u8 12) := by rw [cellAt_of (Fr_blk x7 b6 id)]; rfl
              have a1 : (bigS ka 2).length + (bigS kb 2).length ≤ 9223372036854775807 := by simp only [bigS_len]; omega
              simp (disch := first | omega | assumption) only [C.ref1_Write_gos, T.tv, ↓reduceIte, Nat.reduceEqDiff, reduceCtorEq, Nat.reduceLeDiff, Nat.reducePow, Int.reducePow, Int.reduceToNat, Nat.reduceAdd, k0', a1]
              refine eff_lits T.slT_69 rfl rfl (by decide) ?_
              have one1 : oneS ⟨12, text, bits, ka, kb⟩ = UInt8.ofNat 12 :: (bigS ka 2 ++ bigS kb 2) := by simp [oneS, bodyS]
              have l1 : (UInt8.ofNat 12 :: (bigS ka 2 ++ bigS kb 2)).length ≤ 65600 := by simp [bigS_len]
              have a2 : [UInt8.ofNat 12].length + (bigS ka 2 ++ bigS kb 2).length ≤ 9223372036854775807 := by simp [bigS_len]
              have a3 : out.length + (UInt8.ofNat 12 :: (bigS ka 2 ++ bigS kb 2)).length ≤ 9223372036854775807 := by omega
              simp (disch := first | omega | assumption) only [C.ref1_Write_gos, T.tv, ↓reduceIte, Nat.reduceEqDiff, reduceCtorEq, Nat.reduceLeDiff, Nat.reducePow, Int.reducePow, Int.reduceToNat, Nat.reduceAdd, a2, a3]
              exact fin _ _ i rfl e00 (by rw [one1]) (by rw [one1]; exact l1) (((hext3.trans x6).trans x7).trans (Ext.push _ _))
            have e55 : errS false ⟨tag, text, bits, ka, kb⟩ = 5 := by
              have : tag = 2 ∨ 12 < tag := by omega
              simp [errS, t0, t1, t3, t4, this]
            have sz : sizeS tag = -1 := by simp [sizeS, t1, t3, t4, t5, t6, t7, t8, t9, t10, t11, t12]
            rw [hwi, er (by rw [e55]; decide), e55, sz]
            simp (disch := first | omega | assumption) only [C.ref1_Write_gos, T.tv, ↓reduceIte, Nat.reduceEqDiff, reduceCtorEq, Nat.reduceLeDiff, Nat.reducePow, Int.reducePow, Int.reduceToNat, Nat.reduceAdd, Int.reduceEq, Int.reduceNeg, Int.reduceLT, decide_true, decide_false, eq_false q', q]
            exact ⟨hext3, rfl⟩
      · have hlt' : ¬ (i : Int) < cs.length := by omega
        have hin : i = cs.length := by omega
        subst hin
        have hd : cs.drop cs.length = [] := by simp
        rw [hd] at hwi
        have hj : (cs.length : Int) - 1 = ((cs.length - 1 : Nat) : Int) := by omega
        obtain ⟨b, o, c', heq, hrd, _⟩ := (hs.ext (by decide) hext).at (i := cs.length - 1) (by omega)
        cases heq
        rw [flatS_at (by omega)] at hrd
        have hnz : ¬ cs.length = 0 := by omega
        generalize cs.getD (cs.length - 1) Cst.zero = kp at hrd he
        obtain ⟨kt, kx, kbi, kka, kkb⟩ := kp
        have cp : cellAt hc ⟨b, o + (cs.length - 1) * 5, none⟩ = some (.int .u8 (kt : Int)) := hrd 0 _ rfl
        have hj2 : ((cs.length - 1 : Nat) : Int) < cs.length := by omega
        simp only at he
        by_cases k5 : kt = 5
        · subst k5
          have hw2 : writeS cs = ([], 5, cs.length) := by rw [hwi, wrS, if_pos (by rw [he]; simp [bigTwo])]
          rw [hw2]
          rw [show ((5 : Nat) : Int) = 5 from rfl] at cp
          simp (disch := first | omega | assumption) only [C.ref1_Write_gos, T.tv, ↓reduceIte, Nat.reduceEqDiff, reduceCtorEq, Nat.reduceLeDiff, Nat.reducePow, Int.reducePow, Int.reduceToNat, Nat.reduceAdd, hlt', hj, hj2, cp, Int.reduceEq, decide_true, decide_false]
          exact ⟨hext, rfl⟩
        · have k5' : ¬ (kt : Int) = 5 := by omega
          by_cases k6 : kt = 6
          · subst k6
            have hw2 : writeS cs = ([], 5, cs.length) := by rw [hwi, wrS, if_pos (by rw [he]; simp [bigTwo])]
            rw [hw2]
            rw [show ((6 : Nat) : Int) = 6 from rfl] at cp
            simp (disch := first | omega | assumption) only [C.ref1_Write_gos, T.tv, ↓reduceIte, Nat.reduceEqDiff, reduceCtorEq, Nat.reduceLeDiff, Nat.reducePow, Int.reducePow, Int.reduceToNat, Nat.reduceAdd, hlt', hj, hj2, cp, Int.reduceEq, decide_true, decide_false]
            exact ⟨hext, rfl⟩
          · have k6' : ¬ (kt : Int) = 6 := by omega
            have hw2 : writeS cs = (out, 0, 0) := by rw [hwi, wrS, if_neg (by rw [he]; simp [bigTwo, k5, k6, hnz])]
            rw [hw2]
            simp (disch := first | omega | assumption) only [C.ref1_Write_gos, T.tv, ↓reduceIte, Nat.reduceEqDiff, reduceCtorEq, Nat.reduceLeDiff, Nat.reducePow, Int.reducePow, Int.reduceToNat, Nat.reduceAdd, hlt', hj, hj2, cp, eq_false k5', eq_false k6', decide_false]
            exact ⟨hext, rfl⟩
end Go.Proofs.Ytohkbpnblkkdgaa

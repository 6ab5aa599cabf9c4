/- A pool as bytes, by the program. -/
import Derived.Test.YtohkbpnblkkdgaaB0
import Derived.Test.YtohkbpnblkkdgaaCw
import Derived.Test.YtohkbpnblkkdgaaA3
namespace Go.Proofs.Ytohkbpnblkkdgaa
open Go.Vc
set_option maxRecDepth 100000
set_option linter.unusedSimpArgs false
set_option linter.unusedVariables false

theorem wrS_step {cs : List Cst} {i : Nat} (hi : i < cs.length) {e : Bool} {out : List UInt8} (h : errS e (cs.getD i Cst.zero) = 0) :
    wrS (cs.drop i) e i out = wrS (cs.drop (i + 1)) (bigTwo (cs.getD i Cst.zero).tag) (i + 1) (out ++ oneS (cs.getD i Cst.zero)) := by
  have : cs.drop i = cs.getD i Cst.zero :: cs.drop (i + 1) := by rw [List.drop_eq_getElem_cons hi]; simp [hi]
  rw [this, wrS, if_neg (fun hn => hn h)]
theorem wrS_err {cs : List Cst} {i : Nat} (hi : i < cs.length) {e : Bool} {out : List UInt8} (h : errS e (cs.getD i Cst.zero) ≠ 0) :
    wrS (cs.drop i) e i out = ([], errS e (cs.getD i Cst.zero), i) := by
  have : cs.drop i = cs.getD i Cst.zero :: cs.drop (i + 1) := by rw [List.drop_eq_getElem_cons hi]; simp [hi]
  rw [this, wrS, if_pos h]

theorem or_pair {a b : Nat} (ha : a < 65536) (hb : b < 65536) : bitsV .or .u64 ((a : Int) * 65536) (b : Int) = ((a * 65536 + b : Nat) : Int) := by
  have h := bits_or (k := .u64) rfl (a * 65536) b (by rw [bits_64]; omega) (by rw [bits_64]; omega)
  have h2 : a * 65536 ||| b = a * 65536 + b := or_add 16 a b (by omega)
  rw [h2] at h
  rw [← h, Int.natCast_mul]; rfl

set_option maxHeartbeats 4000000 in
theorem write_any (cs : List Cst) (v : Value) (h : Heap) (hs : SlN h 5 v cs.length (flatS cs)) (hf : ∀ c ∈ cs, c.Fit) (hl : ∀ c ∈ cs, c.text.length ≤ 1073741824) (hlen : cs.length ≤ 9223372036854775807) :
    HCalls Try.prog 40 #[v] h fun r h' => Ext h h' ∧ r = wV (writeS cs) := by
  refine C.pool_Write_calls (args := [v]) rfl ?_
  have hs' := hs
  obtain ⟨_, a, c, rfl, _⟩ := hs'
  by_cases hb : cs.length = 0 ∨ 65535 < cs.length
  · have hw : writeS cs = ([], 12, 0) := if_pos hb
    rw [hw]
    rcases hb with h0 | h1
    · have e0 : (cs.length : Int) = 0 := by omega
      simp (disch := first | omega | assumption) only [C.pool_Write_gos, T.tv, ↓reduceIte, Nat.reduceEqDiff, reduceCtorEq, Nat.reduceLeDiff, Nat.reducePow, Int.reducePow, Int.reduceToNat, Nat.reduceAdd, e0]
      exact ⟨Ext.refl _, rfl⟩
    · have e0 : ¬ (cs.length : Int) = 0 := by omega
      have e1 : 65535 < (cs.length : Int) := by omega
      simp (disch := first | omega | assumption) only [C.pool_Write_gos, T.tv, ↓reduceIte, Nat.reduceEqDiff, reduceCtorEq, Nat.reduceLeDiff, Nat.reducePow, Int.reducePow, Int.reduceToNat, Nat.reduceAdd, eq_false e0, e1]
      exact ⟨Ext.refl _, rfl⟩
  · have hw : writeS cs = wrS cs true 0 (bigS cs.length 2) := if_neg hb
    have e0 : ¬ (cs.length : Int) = 0 := by omega
    have e1 : ¬ 65535 < (cs.length : Int) := by omega
    simp (disch := first | omega | assumption) only [C.pool_Write_gos, T.tv, ↓reduceIte, Nat.reduceEqDiff, reduceCtorEq, Nat.reduceLeDiff, Nat.reducePow, Int.reducePow, Int.reduceToNat, Nat.reduceAdd, eq_false e0, e1]
    refine eff_call_of ?_
    have hwr : IntKind.u64.wrap (cs.length : Int) = (cs.length : Int) := wrap_u64 (by omega) (by omega)
    simp (disch := first | omega | assumption) only [C.pool_Write_gos, T.tv, ↓reduceIte, Nat.reduceEqDiff, reduceCtorEq, Nat.reduceLeDiff, Nat.reducePow, Int.reducePow, Int.reduceToNat, Nat.reduceAdd, hwr]
    have hbig := big_any cs.length 2 h (by omega) (by omega)
    rw [show ((2 : Nat) : Int) = 2 from rfl] at hbig
    refine hbig.mono ?_
    rintro v1 h1 ⟨x1, rfl⟩
    simp (disch := first | omega | assumption) only [C.pool_Write_gos, T.tv, ↓reduceIte, Nat.reduceEqDiff, reduceCtorEq, Nat.reduceLeDiff, Nat.reducePow, Int.reducePow, Int.reduceToNat, Nat.reduceAdd]
    refine eff_bytes_of (base := h.size) Try.underlying9 Try.underlying69 Try.underlying5 rfl x1.size (by rw [bigS_len]; decide) ?_
    intro sv h2 own2 x2
    rw [bigS_len] at own2
    simp (disch := first | omega | assumption) only [C.pool_Write_gos, T.tv, ↓reduceIte, Nat.reduceEqDiff, reduceCtorEq, Nat.reduceLeDiff, Nat.reducePow, Int.reducePow, Int.reduceToNat, Nat.reduceAdd]
    refine loop_intro [0, 5, 6, 24, 25, 26] (fun m ρ hc => ∃ (i : Nat) (out : List UInt8) (sv : Value) (e : Bool), m = cs.length - i ∧ i ≤ cs.length ∧
      ρ = [(0, .slice a cs.length c), (5, sv), (6, .bool e), (24, .slice a cs.length c), (25, .int .i64 cs.length), (26, .int .i64 i)] ∧
      Own hc h.size 5 1 sv out.length (bytesV out) ∧ Ext h hc ∧ writeS cs = wrS (cs.drop i) e i out ∧ out.length ≤ 2 + i * 65600) ?_ ?_
    · simp (disch := first | omega | assumption) only [C.pool_Write_gos, T.tv, ↓reduceIte, Nat.reduceEqDiff, reduceCtorEq, Nat.reduceLeDiff, Nat.reducePow, Int.reducePow, Int.reduceToNat, Nat.reduceAdd]
      exact ⟨_, 0, _, _, _, rfl, Nat.zero_le _, rfl, by rw [bigS_len]; exact own2, x1.trans x2, by rw [hw]; rfl, by rw [bigS_len]; omega⟩
    · rintro m ρ hc ⟨i, out, sv, e, rfl, hi, rfl, hown, hext, hwi, hout⟩
      rcases Nat.lt_or_ge i cs.length with hlt | hge
      · have hlt' : (i : Int) < cs.length := by omega
        obtain ⟨b, o, c', he, hrd, _⟩ := (hs.ext (by decide) hext).at hlt
        cases he
        rw [flatS_at hlt] at hrd
        have hfit : (cs.getD i Cst.zero).Fit := hf _ (by simp [hlt])
        have htx : (cs.getD i Cst.zero).text.length ≤ 1073741824 := hl _ (by simp [hlt])
        have st := @wrS_step cs i hlt e out
        have er := @wrS_err cs i hlt e out
        generalize cs.getD i Cst.zero = k at *
        obtain ⟨tag, text, bits, ka, kb⟩ := k
        have hld := ld_agg T.ag_76 hrd rfl
        simp only [Cst.cells] at hld hrd
        simp (disch := first | omega | assumption) only [C.pool_Write_gos, T.tv, ↓reduceIte, Nat.reduceEqDiff, reduceCtorEq, Nat.reduceLeDiff, Nat.reducePow, Int.reducePow, Int.reduceToNat, Nat.reduceAdd, hlt', hld]
        refine eff_alloc_z T.zr_76 ?_
        simp (disch := first | omega | assumption) only [C.pool_Write_gos, T.tv, ↓reduceIte, Nat.reduceEqDiff, reduceCtorEq, Nat.reduceLeDiff, Nat.reducePow, Int.reducePow, Int.reduceToNat, Nat.reduceAdd]
        refine eff_store_new_z T.zr_76 rfl rfl rfl (by simp [Value.cells, oneCell, str]) rfl ?_
        intro h3 x3 hlt3 hrd3 b3
        change h3[hc.size]? = some (.cells #[.int .u8 (tag : Int), str text, .int .u64 (bits : Int), .int .u16 (ka : Int), .int .u16 (kb : Int)] 76 (0, 0)) at b3
        have c0 : cellAt h3 ⟨hc.size, 0, none⟩ = some (.int .u8 (tag : Int)) := hrd3 0 _ rfl
        have c1 : cellAt h3 ⟨hc.size, 1, none⟩ = some (str text) := hrd3 1 _ rfl
        have c2 : cellAt h3 ⟨hc.size, 2, none⟩ = some (.int .u64 (bits : Int)) := hrd3 2 _ rfl
        have c3 : cellAt h3 ⟨hc.size, 3, none⟩ = some (.int .u16 (ka : Int)) := hrd3 3 _ rfl
        have c4 : cellAt h3 ⟨hc.size, 4, none⟩ = some (.int .u16 (kb : Int)) := hrd3 4 _ rfl
        have own3 := hown.ext x3
        have hext3 := hext.trans x3
        clear hrd3 hrd hld hown
        by_cases ht : (decide (tag = 0)) ≠ e
        · have e5 : errS e ⟨tag, text, bits, ka, kb⟩ = 5 := if_pos ht
          rw [hwi, er (by rw [e5]; decide), e5]
          have hne : (decide (decide ((tag : Int) = 0) ≠ e)) = true := by
            have : decide ((tag : Int) = 0) = decide (tag = 0) := by simp
            rw [this]; simpa using ht
          simp (disch := first | omega | assumption) only [C.pool_Write_gos, T.tv, ↓reduceIte, Nat.reduceEqDiff, reduceCtorEq, Nat.reduceLeDiff, Nat.reducePow, Int.reducePow, Int.reduceToNat, Nat.reduceAdd, c0, hne]
          exact ⟨hext3, rfl⟩
        · have he : e = decide (tag = 0) := (Decidable.not_not.1 ht).symm
          subst he
          clear ht
          have fin : ∀ (sv' : Value) (h' : Heap) (e' : Bool) (i0 : Nat), i0 = i → errS (decide (tag = 0)) ⟨tag, text, bits, ka, kb⟩ = 0 → bigTwo tag = e' → (oneS ⟨tag, text, bits, ka, kb⟩).length ≤ 65600 →
              Own h' h.size 5 1 sv' (out ++ oneS ⟨tag, text, bits, ka, kb⟩).length (bytesV (out ++ oneS ⟨tag, text, bits, ka, kb⟩)) → Ext h h' →
              ∃ m', m' < cs.length - i ∧ ∃ (i : Nat) (out : List UInt8) (sv : Value) (e : Bool), m' = cs.length - i ∧ i ≤ cs.length ∧
                [(0, .slice (some ⟨b, o, none⟩) cs.length c), (5, sv'), (6, .bool e'), (24, .slice (some ⟨b, o, none⟩) cs.length c), (25, .int .i64 cs.length), (26, .int .i64 ((i0 : Int) + 1))] =
                  [(0, .slice (some ⟨b, o, none⟩) cs.length c), (5, sv), (6, .bool e), (24, .slice (some ⟨b, o, none⟩) cs.length c), (25, .int .i64 cs.length), (26, .int .i64 (i : Int))] ∧
                Own h' h.size 5 1 sv out.length (bytesV out) ∧ Ext h h' ∧ writeS cs = wrS (cs.drop i) e i out ∧ out.length ≤ 2 + i * 65600 := by
            intro sv' h' e' i0 hi0 he hb' hol ho hx'
            subst hi0
            refine ⟨_, ?_, i0 + 1, _, sv', e', rfl, by omega, rfl, ho, hx', ?_, ?_⟩
            · omega
            · rw [hwi, st he, ← hb']
            · rw [List.length_append]; omega
          by_cases t0 : tag = 0
          · subst t0
            rw [show ((0 : Nat) : Int) = 0 from rfl] at c0
            simp (disch := first | omega | assumption) only [C.pool_Write_gos, T.tv, ↓reduceIte, Nat.reduceEqDiff, reduceCtorEq, Nat.reduceLeDiff, Nat.reducePow, Int.reducePow, Int.reduceToNat, Nat.reduceAdd, c0, decide_true, decide_false, Int.reduceEq]
            exact fin sv h3 false i rfl rfl rfl (by simp [oneS]) (by simpa [oneS] using own3) hext3
          · by_cases t1 : tag = 1
            · subst t1
              rw [show ((1 : Nat) : Int) = 1 from rfl] at c0
              simp (disch := first | omega | assumption) only [C.pool_Write_gos, T.tv, ↓reduceIte, Nat.reduceEqDiff, reduceCtorEq, Nat.reduceLeDiff, Nat.reducePow, Int.reducePow, Int.reduceToNat, Nat.reduceAdd, c0, c1, decide_true, decide_false, Int.reduceEq]
              refine eff_callF rfl ((units_any text h3 htx).mono ?_)
              rintro v4 h4 ⟨x4, r4⟩
              have c0' : cellAt h4 ⟨hc.size, 0, none⟩ = some (.int .u8 1) := by rw [x4.cell hlt3 id]; exact c0
              have c1' : cellAt h4 ⟨hc.size, 1, none⟩ = some (str text) := by rw [x4.cell hlt3 id]; exact c1
              have hext4 := hext3.trans x4
              cases hu : unitsS text with
              | none =>
                rw [hu] at r4
                simp only [URes] at r4
                subst r4
                have e6 : errS (decide (1 = 0)) ⟨1, text, bits, ka, kb⟩ = 6 := by simp [errS, hu]
                rw [hwi, er (by rw [e6]; decide), e6]
                simp (disch := first | omega | assumption) only [C.pool_Write_gos, T.tv, ↓reduceIte, Nat.reduceEqDiff, reduceCtorEq, Nat.reduceLeDiff, Nat.reducePow, Int.reducePow, Int.reduceToNat, Nat.reduceAdd]
                exact ⟨hext4, rfl⟩
              | some us =>
                rw [hu] at r4
                simp only [URes] at r4
                obtain ⟨sv4, rfl, _⟩ := r4
                by_cases hbig2 : 65535 < text.length
                · have hbig2' : (65535 : Int) < text.length := by omega
                  have e12 : errS (decide (1 = 0)) ⟨1, text, bits, ka, kb⟩ = 12 := by simp [errS, hu, hbig2]
                  rw [hwi, er (by rw [e12]; decide), e12]
                  simp (disch := first | omega | assumption) only [C.pool_Write_gos, T.tv, ↓reduceIte, Nat.reduceEqDiff, reduceCtorEq, Nat.reduceLeDiff, Nat.reducePow, Int.reducePow, Int.reduceToNat, Nat.reduceAdd, c1', hbig2']
                  exact ⟨hext4, rfl⟩
                · have hbig2' : ¬ (65535 : Int) < text.length := by omega
                  have own4 := own3.ext x4
                  have b4 := Fr_blk x4 b3 id
                  simp (disch := first | omega | assumption) only [C.pool_Write_gos, T.tv, ↓reduceIte, Nat.reduceEqDiff, reduceCtorEq, Nat.reduceLeDiff, Nat.reducePow, Int.reducePow, Int.reduceToNat, Nat.reduceAdd, c0', c1', hbig2']
                  refine eff_lits T.slT_69 rfl rfl (by decide) ?_
                  simp (disch := first | omega | assumption) only [C.pool_Write_gos, T.tv, ↓reduceIte, Nat.reduceEqDiff, reduceCtorEq, Nat.reduceLeDiff, Nat.reducePow, Int.reducePow, Int.reduceToNat, Nat.reduceAdd]
                  refine eff_append_own (m := 1) T.slT_69 rfl rfl (own4.push _) rfl (Rd_new (vs := [.int .u8 1])) (by simp [oneCell]) (by omega) (by omega) (by have := hext4.size; simp; omega) ?_
                  intro v5 h5 own5 fr5 _
                  have hext5 : Ext h h5 := Ext.app (hext4.trans (Ext.push _ _)) fr5 (fun k hk => (own4.lt k hk).1)
                  have b5 := Fr_blk fr5 (push_blk b4) (Own_ne own4 b4 (by decide))
                  have k5 : cellAt h5 ⟨hc.size, 1, none⟩ = some (str text) := by rw [cellAt_of b5]; rfl
                  have hw5 : IntKind.u64.wrap (text.length : Int) = (text.length : Int) := wrap_u64 (by omega) (by omega)
                  simp (disch := first | omega | assumption) only [C.pool_Write_gos, T.tv, ↓reduceIte, Nat.reduceEqDiff, reduceCtorEq, Nat.reduceLeDiff, Nat.reducePow, Int.reducePow, Int.reduceToNat, Nat.reduceAdd, k5, hw5]
                  refine eff_callF rfl ((big_any text.length 2 h5 (by omega) (by omega)).mono ?_)
                  rintro v6 h6 ⟨x6, rfl⟩
                  simp (disch := first | omega | assumption) only [C.pool_Write_gos, T.tv, ↓reduceIte, Nat.reduceEqDiff, reduceCtorEq, Nat.reduceLeDiff, Nat.reducePow, Int.reducePow, Int.reduceToNat, Nat.reduceAdd]
                  have own6 := own5.ext x6
                  have b6 := Fr_blk x6 b5 id
                  have hext6 := hext5.trans x6
                  refine eff_append_str T.slT_69 Try.underlying9 rfl rfl own6 (by rw [bigS_len]; omega) (by rw [bigS_len]; omega) hext6.size ?_
                  intro v7 h7 own7 fr7
                  have hext7 : Ext h h7 := Ext.app hext6 fr7 (fun k hk => (own6.lt k hk).1)
                  have b7 := Fr_blk fr7 b6 (Own_ne own6 b6 (by decide))
                  have k7 : cellAt h7 ⟨hc.size, 1, none⟩ = some (str text) := by rw [cellAt_of b7]; rfl
                  simp (disch := first | omega | assumption) only [C.pool_Write_gos, T.tv, ↓reduceIte, Nat.reduceEqDiff, reduceCtorEq, Nat.reduceLeDiff, Nat.reducePow, Int.reducePow, Int.reduceToNat, Nat.reduceAdd, k7]
                  rw [bigS_len] at own7
                  refine eff_append_str T.slT_69 Try.underlying9 rfl rfl own7 (by omega) (by omega) hext7.size ?_
                  intro v8 h8 own8 fr8
                  have hext8 : Ext h h8 := Ext.app hext7 fr8 (fun k hk => (own7.lt k hk).1)
                  simp (disch := first | omega | assumption) only [C.pool_Write_gos, T.tv, ↓reduceIte, Nat.reduceEqDiff, reduceCtorEq, Nat.reduceLeDiff, Nat.reducePow, Int.reducePow, Int.reduceToNat, Nat.reduceAdd]
                  have e0' : errS (decide (1 = 0)) ⟨1, text, bits, ka, kb⟩ = 0 := by simp [errS, hu, hbig2]
                  have one1 : oneS ⟨1, text, bits, ka, kb⟩ = UInt8.ofNat 1 :: (bigS text.length 2 ++ text) := by simp [oneS, bodyS]
                  refine fin v8 h8 false i rfl e0' rfl ?_ ?_ hext8
                  · rw [one1]; simp [bigS_len]; omega
                  · rw [one1]
                    refine Own_cast own8 (by simp [bigS_len]; omega) (by simp [bytesV])
            · skip
              -- ARMS
              by_cases t3 : tag = 3
              · subst t3
                rw [show ((3 : Nat) : Int) = 3 from rfl] at c0
                have hb64 : bits < 18446744073709551616 := hfit.bits
                by_cases hbb : 4294967296 ≤ bits
                · have hbb' : ¬ (bits : Int) / 4294967296 = 0 := by omega
                  have e12 : errS (decide (3 = 0)) ⟨3, text, bits, ka, kb⟩ = 12 := by simp [errS, hbb]
                  rw [hwi, er (by rw [e12]; decide), e12]
                  simp (disch := first | omega | assumption) only [C.pool_Write_gos, T.tv, ↓reduceIte, Nat.reduceEqDiff, reduceCtorEq, Nat.reduceLeDiff, Nat.reducePow, Int.reducePow, Int.reduceToNat, Nat.reduceAdd, c0, c2, eq_false hbb', decide_true, decide_false, Int.reduceEq]
                  exact ⟨hext3, rfl⟩
                have hbb' : (bits : Int) / 4294967296 = 0 := by omega
                have e00 : errS (decide (3 = 0)) ⟨3, text, bits, ka, kb⟩ = 0 := by simp [errS, hbb]
                simp (disch := first | omega | assumption) only [C.pool_Write_gos, T.tv, ↓reduceIte, Nat.reduceEqDiff, reduceCtorEq, Nat.reduceLeDiff, Nat.reducePow, Int.reducePow, Int.reduceToNat, Nat.reduceAdd, c0, c2, eq_true hbb', decide_true, decide_false, Int.reduceEq]
                refine eff_lits T.slT_69 rfl rfl (by decide) ?_
                simp (disch := first | omega | assumption) only [C.pool_Write_gos, T.tv, ↓reduceIte, Nat.reduceEqDiff, reduceCtorEq, Nat.reduceLeDiff, Nat.reducePow, Int.reducePow, Int.reduceToNat, Nat.reduceAdd]
                refine eff_append_own (m := 1) T.slT_69 rfl rfl (own3.push _) rfl (Rd_new (vs := [.int .u8 3])) (by simp [oneCell]) (by omega) (by omega) (by have := hext3.size; simp; omega) ?_
                intro v5 h5 own5 fr5 _
                have hext5 : Ext h h5 := Ext.app (hext3.trans (Ext.push _ _)) fr5 (fun k hk => (own3.lt k hk).1)
                have b5 := Fr_blk fr5 (push_blk b3) (Own_ne own3 b3 (by decide))
                have k2 : cellAt h5 ⟨hc.size, 2, none⟩ = some (.int .u64 (bits : Int)) := by rw [cellAt_of b5]; rfl
                have k3 : cellAt h5 ⟨hc.size, 3, none⟩ = some (.int .u16 (ka : Int)) := by rw [cellAt_of b5]; rfl
                have k4 : cellAt h5 ⟨hc.size, 4, none⟩ = some (.int .u16 (kb : Int)) := by rw [cellAt_of b5]; rfl
                have wa : IntKind.u64.wrap (ka : Int) = (ka : Int) := wrap_u64 (by omega) (by have := hfit.a; simp only at this; omega)
                simp (disch := first | omega | assumption) only [C.pool_Write_gos, T.tv, ↓reduceIte, Nat.reduceEqDiff, reduceCtorEq, Nat.reduceLeDiff, Nat.reducePow, Int.reducePow, Int.reduceToNat, Nat.reduceAdd, k2, k3, k4, wa]
                refine eff_callF rfl ((big_any bits 4 h5 (by have := hfit.bits; simp only at this; omega) (by omega)).mono ?_)
                rintro v6 h6 ⟨x6, rfl⟩
                simp (disch := first | omega | assumption) only [C.pool_Write_gos, T.tv, ↓reduceIte, Nat.reduceEqDiff, reduceCtorEq, Nat.reduceLeDiff, Nat.reducePow, Int.reducePow, Int.reduceToNat, Nat.reduceAdd]
                have own6 := own5.ext x6
                have hext6 := hext5.trans x6
                refine eff_append_str T.slT_69 Try.underlying9 rfl rfl own6 (by rw [bigS_len]; omega) (by rw [bigS_len]; omega) hext6.size ?_
                intro v7 h7 own7 fr7
                have hext7 : Ext h h7 := Ext.app hext6 fr7 (fun k hk => (own6.lt k hk).1)
                simp (disch := first | omega | assumption) only [C.pool_Write_gos, T.tv, ↓reduceIte, Nat.reduceEqDiff, reduceCtorEq, Nat.reduceLeDiff, Nat.reducePow, Int.reducePow, Int.reduceToNat, Nat.reduceAdd]
                have one1 : oneS ⟨3, text, bits, ka, kb⟩ = UInt8.ofNat 3 :: bigS bits 4 := by simp [oneS, bodyS]
                refine fin v7 h7 false i rfl e00 rfl ?_ ?_ hext7
                · rw [one1]; simp [bigS_len]
                · rw [one1]
                  refine Own_cast own7 (by simp [bigS_len] <;> omega) (by simp [bytesV])
              by_cases t4 : tag = 4
              · subst t4
                rw [show ((4 : Nat) : Int) = 4 from rfl] at c0
                have hb64 : bits < 18446744073709551616 := hfit.bits
                by_cases hbb : 4294967296 ≤ bits
                · have hbb' : ¬ (bits : Int) / 4294967296 = 0 := by omega
                  have e12 : errS (decide (4 = 0)) ⟨4, text, bits, ka, kb⟩ = 12 := by simp [errS, hbb]
                  rw [hwi, er (by rw [e12]; decide), e12]
                  simp (disch := first | omega | assumption) only [C.pool_Write_gos, T.tv, ↓reduceIte, Nat.reduceEqDiff, reduceCtorEq, Nat.reduceLeDiff, Nat.reducePow, Int.reducePow, Int.reduceToNat, Nat.reduceAdd, c0, c2, eq_false hbb', decide_true, decide_false, Int.reduceEq]
                  exact ⟨hext3, rfl⟩
                have hbb' : (bits : Int) / 4294967296 = 0 := by omega
                have e00 : errS (decide (4 = 0)) ⟨4, text, bits, ka, kb⟩ = 0 := by simp [errS, hbb]
                simp (disch := first | omega | assumption) only [C.pool_Write_gos, T.tv, ↓reduceIte, Nat.reduceEqDiff, reduceCtorEq, Nat.reduceLeDiff, Nat.reducePow, Int.reducePow, Int.reduceToNat, Nat.reduceAdd, c0, c2, eq_true hbb', decide_true, decide_false, Int.reduceEq]
                refine eff_lits T.slT_69 rfl rfl (by decide) ?_
                simp (disch := first | omega | assumption) only [C.pool_Write_gos, T.tv, ↓reduceIte, Nat.reduceEqDiff, reduceCtorEq, Nat.reduceLeDiff, Nat.reducePow, Int.reducePow, Int.reduceToNat, Nat.reduceAdd]
                refine eff_append_own (m := 1) T.slT_69 rfl rfl (own3.push _) rfl (Rd_new (vs := [.int .u8 4])) (by simp [oneCell]) (by omega) (by omega) (by have := hext3.size; simp; omega) ?_
                intro v5 h5 own5 fr5 _
                have hext5 : Ext h h5 := Ext.app (hext3.trans (Ext.push _ _)) fr5 (fun k hk => (own3.lt k hk).1)
                have b5 := Fr_blk fr5 (push_blk b3) (Own_ne own3 b3 (by decide))
                have k2 : cellAt h5 ⟨hc.size, 2, none⟩ = some (.int .u64 (bits : Int)) := by rw [cellAt_of b5]; rfl
                have k3 : cellAt h5 ⟨hc.size, 3, none⟩ = some (.int .u16 (ka : Int)) := by rw [cellAt_of b5]; rfl
                have k4 : cellAt h5 ⟨hc.size, 4, none⟩ = some (.int .u16 (kb : Int)) := by rw [cellAt_of b5]; rfl
                have wa : IntKind.u64.wrap (ka : Int) = (ka : Int) := wrap_u64 (by omega) (by have := hfit.a; simp only at this; omega)
                simp (disch := first | omega | assumption) only [C.pool_Write_gos, T.tv, ↓reduceIte, Nat.reduceEqDiff, reduceCtorEq, Nat.reduceLeDiff, Nat.reducePow, Int.reducePow, Int.reduceToNat, Nat.reduceAdd, k2, k3, k4, wa]
                refine eff_callF rfl ((big_any bits 4 h5 (by have := hfit.bits; simp only at this; omega) (by omega)).mono ?_)
                rintro v6 h6 ⟨x6, rfl⟩
                simp (disch := first | omega | assumption) only [C.pool_Write_gos, T.tv, ↓reduceIte, Nat.reduceEqDiff, reduceCtorEq, Nat.reduceLeDiff, Nat.reducePow, Int.reducePow, Int.reduceToNat, Nat.reduceAdd]
                have own6 := own5.ext x6
                have hext6 := hext5.trans x6
                refine eff_append_str T.slT_69 Try.underlying9 rfl rfl own6 (by rw [bigS_len]; omega) (by rw [bigS_len]; omega) hext6.size ?_
                intro v7 h7 own7 fr7
                have hext7 : Ext h h7 := Ext.app hext6 fr7 (fun k hk => (own6.lt k hk).1)
                simp (disch := first | omega | assumption) only [C.pool_Write_gos, T.tv, ↓reduceIte, Nat.reduceEqDiff, reduceCtorEq, Nat.reduceLeDiff, Nat.reducePow, Int.reducePow, Int.reduceToNat, Nat.reduceAdd]
                have one1 : oneS ⟨4, text, bits, ka, kb⟩ = UInt8.ofNat 4 :: bigS bits 4 := by simp [oneS, bodyS]
                refine fin v7 h7 false i rfl e00 rfl ?_ ?_ hext7
                · rw [one1]; simp [bigS_len]
                · rw [one1]
                  refine Own_cast own7 (by simp [bigS_len] <;> omega) (by simp [bytesV])
              by_cases t5 : tag = 5
              · subst t5
                rw [show ((5 : Nat) : Int) = 5 from rfl] at c0
                have e00 : errS (decide (5 = 0)) ⟨5, text, bits, ka, kb⟩ = 0 := by simp [errS]
                simp (disch := first | omega | assumption) only [C.pool_Write_gos, T.tv, ↓reduceIte, Nat.reduceEqDiff, reduceCtorEq, Nat.reduceLeDiff, Nat.reducePow, Int.reducePow, Int.reduceToNat, Nat.reduceAdd, c0, c2, decide_true, decide_false, Int.reduceEq]
                refine eff_lits T.slT_69 rfl rfl (by decide) ?_
                simp (disch := first | omega | assumption) only [C.pool_Write_gos, T.tv, ↓reduceIte, Nat.reduceEqDiff, reduceCtorEq, Nat.reduceLeDiff, Nat.reducePow, Int.reducePow, Int.reduceToNat, Nat.reduceAdd]
                refine eff_append_own (m := 1) T.slT_69 rfl rfl (own3.push _) rfl (Rd_new (vs := [.int .u8 5])) (by simp [oneCell]) (by omega) (by omega) (by have := hext3.size; simp; omega) ?_
                intro v5 h5 own5 fr5 _
                have hext5 : Ext h h5 := Ext.app (hext3.trans (Ext.push _ _)) fr5 (fun k hk => (own3.lt k hk).1)
                have b5 := Fr_blk fr5 (push_blk b3) (Own_ne own3 b3 (by decide))
                have k2 : cellAt h5 ⟨hc.size, 2, none⟩ = some (.int .u64 (bits : Int)) := by rw [cellAt_of b5]; rfl
                have k3 : cellAt h5 ⟨hc.size, 3, none⟩ = some (.int .u16 (ka : Int)) := by rw [cellAt_of b5]; rfl
                have k4 : cellAt h5 ⟨hc.size, 4, none⟩ = some (.int .u16 (kb : Int)) := by rw [cellAt_of b5]; rfl
                have wa : IntKind.u64.wrap (ka : Int) = (ka : Int) := wrap_u64 (by omega) (by have := hfit.a; simp only at this; omega)
                simp (disch := first | omega | assumption) only [C.pool_Write_gos, T.tv, ↓reduceIte, Nat.reduceEqDiff, reduceCtorEq, Nat.reduceLeDiff, Nat.reducePow, Int.reducePow, Int.reduceToNat, Nat.reduceAdd, k2, k3, k4, wa]
                refine eff_callF rfl ((big_any bits 8 h5 (by have := hfit.bits; simp only at this; omega) (by omega)).mono ?_)
                rintro v6 h6 ⟨x6, rfl⟩
                simp (disch := first | omega | assumption) only [C.pool_Write_gos, T.tv, ↓reduceIte, Nat.reduceEqDiff, reduceCtorEq, Nat.reduceLeDiff, Nat.reducePow, Int.reducePow, Int.reduceToNat, Nat.reduceAdd]
                have own6 := own5.ext x6
                have hext6 := hext5.trans x6
                refine eff_append_str T.slT_69 Try.underlying9 rfl rfl own6 (by rw [bigS_len]; omega) (by rw [bigS_len]; omega) hext6.size ?_
                intro v7 h7 own7 fr7
                have hext7 : Ext h h7 := Ext.app hext6 fr7 (fun k hk => (own6.lt k hk).1)
                simp (disch := first | omega | assumption) only [C.pool_Write_gos, T.tv, ↓reduceIte, Nat.reduceEqDiff, reduceCtorEq, Nat.reduceLeDiff, Nat.reducePow, Int.reducePow, Int.reduceToNat, Nat.reduceAdd]
                have one1 : oneS ⟨5, text, bits, ka, kb⟩ = UInt8.ofNat 5 :: bigS bits 8 := by simp [oneS, bodyS]
                refine fin v7 h7 true i rfl e00 rfl ?_ ?_ hext7
                · rw [one1]; simp [bigS_len]
                · rw [one1]
                  refine Own_cast own7 (by simp [bigS_len] <;> omega) (by simp [bytesV])
              by_cases t6 : tag = 6
              · subst t6
                rw [show ((6 : Nat) : Int) = 6 from rfl] at c0
                have e00 : errS (decide (6 = 0)) ⟨6, text, bits, ka, kb⟩ = 0 := by simp [errS]
                simp (disch := first | omega | assumption) only [C.pool_Write_gos, T.tv, ↓reduceIte, Nat.reduceEqDiff, reduceCtorEq, Nat.reduceLeDiff, Nat.reducePow, Int.reducePow, Int.reduceToNat, Nat.reduceAdd, c0, c2, decide_true, decide_false, Int.reduceEq]
                refine eff_lits T.slT_69 rfl rfl (by decide) ?_
                simp (disch := first | omega | assumption) only [C.pool_Write_gos, T.tv, ↓reduceIte, Nat.reduceEqDiff, reduceCtorEq, Nat.reduceLeDiff, Nat.reducePow, Int.reducePow, Int.reduceToNat, Nat.reduceAdd]
                refine eff_append_own (m := 1) T.slT_69 rfl rfl (own3.push _) rfl (Rd_new (vs := [.int .u8 6])) (by simp [oneCell]) (by omega) (by omega) (by have := hext3.size; simp; omega) ?_
                intro v5 h5 own5 fr5 _
                have hext5 : Ext h h5 := Ext.app (hext3.trans (Ext.push _ _)) fr5 (fun k hk => (own3.lt k hk).1)
                have b5 := Fr_blk fr5 (push_blk b3) (Own_ne own3 b3 (by decide))
                have k2 : cellAt h5 ⟨hc.size, 2, none⟩ = some (.int .u64 (bits : Int)) := by rw [cellAt_of b5]; rfl
                have k3 : cellAt h5 ⟨hc.size, 3, none⟩ = some (.int .u16 (ka : Int)) := by rw [cellAt_of b5]; rfl
                have k4 : cellAt h5 ⟨hc.size, 4, none⟩ = some (.int .u16 (kb : Int)) := by rw [cellAt_of b5]; rfl
                have wa : IntKind.u64.wrap (ka : Int) = (ka : Int) := wrap_u64 (by omega) (by have := hfit.a; simp only at this; omega)
                simp (disch := first | omega | assumption) only [C.pool_Write_gos, T.tv, ↓reduceIte, Nat.reduceEqDiff, reduceCtorEq, Nat.reduceLeDiff, Nat.reducePow, Int.reducePow, Int.reduceToNat, Nat.reduceAdd, k2, k3, k4, wa]
                refine eff_callF rfl ((big_any bits 8 h5 (by have := hfit.bits; simp only at this; omega) (by omega)).mono ?_)
                rintro v6 h6 ⟨x6, rfl⟩
                simp (disch := first | omega | assumption) only [C.pool_Write_gos, T.tv, ↓reduceIte, Nat.reduceEqDiff, reduceCtorEq, Nat.reduceLeDiff, Nat.reducePow, Int.reducePow, Int.reduceToNat, Nat.reduceAdd]
                have own6 := own5.ext x6
                have hext6 := hext5.trans x6
                refine eff_append_str T.slT_69 Try.underlying9 rfl rfl own6 (by rw [bigS_len]; omega) (by rw [bigS_len]; omega) hext6.size ?_
                intro v7 h7 own7 fr7
                have hext7 : Ext h h7 := Ext.app hext6 fr7 (fun k hk => (own6.lt k hk).1)
                simp (disch := first | omega | assumption) only [C.pool_Write_gos, T.tv, ↓reduceIte, Nat.reduceEqDiff, reduceCtorEq, Nat.reduceLeDiff, Nat.reducePow, Int.reducePow, Int.reduceToNat, Nat.reduceAdd]
                have one1 : oneS ⟨6, text, bits, ka, kb⟩ = UInt8.ofNat 6 :: bigS bits 8 := by simp [oneS, bodyS]
                refine fin v7 h7 true i rfl e00 rfl ?_ ?_ hext7
                · rw [one1]; simp [bigS_len]
                · rw [one1]
                  refine Own_cast own7 (by simp [bigS_len] <;> omega) (by simp [bytesV])
              by_cases t7 : tag = 7
              · subst t7
                rw [show ((7 : Nat) : Int) = 7 from rfl] at c0
                have e00 : errS (decide (7 = 0)) ⟨7, text, bits, ka, kb⟩ = 0 := by simp [errS]
                simp (disch := first | omega | assumption) only [C.pool_Write_gos, T.tv, ↓reduceIte, Nat.reduceEqDiff, reduceCtorEq, Nat.reduceLeDiff, Nat.reducePow, Int.reducePow, Int.reduceToNat, Nat.reduceAdd, c0, c2, decide_true, decide_false, Int.reduceEq]
                refine eff_lits T.slT_69 rfl rfl (by decide) ?_
                simp (disch := first | omega | assumption) only [C.pool_Write_gos, T.tv, ↓reduceIte, Nat.reduceEqDiff, reduceCtorEq, Nat.reduceLeDiff, Nat.reducePow, Int.reducePow, Int.reduceToNat, Nat.reduceAdd]
                refine eff_append_own (m := 1) T.slT_69 rfl rfl (own3.push _) rfl (Rd_new (vs := [.int .u8 7])) (by simp [oneCell]) (by omega) (by omega) (by have := hext3.size; simp; omega) ?_
                intro v5 h5 own5 fr5 _
                have hext5 : Ext h h5 := Ext.app (hext3.trans (Ext.push _ _)) fr5 (fun k hk => (own3.lt k hk).1)
                have b5 := Fr_blk fr5 (push_blk b3) (Own_ne own3 b3 (by decide))
                have k2 : cellAt h5 ⟨hc.size, 2, none⟩ = some (.int .u64 (bits : Int)) := by rw [cellAt_of b5]; rfl
                have k3 : cellAt h5 ⟨hc.size, 3, none⟩ = some (.int .u16 (ka : Int)) := by rw [cellAt_of b5]; rfl
                have k4 : cellAt h5 ⟨hc.size, 4, none⟩ = some (.int .u16 (kb : Int)) := by rw [cellAt_of b5]; rfl
                have wa : IntKind.u64.wrap (ka : Int) = (ka : Int) := wrap_u64 (by omega) (by have := hfit.a; simp only at this; omega)
                simp (disch := first | omega | assumption) only [C.pool_Write_gos, T.tv, ↓reduceIte, Nat.reduceEqDiff, reduceCtorEq, Nat.reduceLeDiff, Nat.reducePow, Int.reducePow, Int.reduceToNat, Nat.reduceAdd, k2, k3, k4, wa]
                refine eff_callF rfl ((big_any ka 2 h5 (by have := hfit.a; simp only at this; omega) (by omega)).mono ?_)
                rintro v6 h6 ⟨x6, rfl⟩
                simp (disch := first | omega | assumption) only [C.pool_Write_gos, T.tv, ↓reduceIte, Nat.reduceEqDiff, reduceCtorEq, Nat.reduceLeDiff, Nat.reducePow, Int.reducePow, Int.reduceToNat, Nat.reduceAdd]
                have own6 := own5.ext x6
                have hext6 := hext5.trans x6
                refine eff_append_str T.slT_69 Try.underlying9 rfl rfl own6 (by rw [bigS_len]; omega) (by rw [bigS_len]; omega) hext6.size ?_
                intro v7 h7 own7 fr7
                have hext7 : Ext h h7 := Ext.app hext6 fr7 (fun k hk => (own6.lt k hk).1)
                simp (disch := first | omega | assumption) only [C.pool_Write_gos, T.tv, ↓reduceIte, Nat.reduceEqDiff, reduceCtorEq, Nat.reduceLeDiff, Nat.reducePow, Int.reducePow, Int.reduceToNat, Nat.reduceAdd]
                have one1 : oneS ⟨7, text, bits, ka, kb⟩ = UInt8.ofNat 7 :: bigS ka 2 := by simp [oneS, bodyS]
                refine fin v7 h7 false i rfl e00 rfl ?_ ?_ hext7
                · rw [one1]; simp [bigS_len]
                · rw [one1]
                  refine Own_cast own7 (by simp [bigS_len] <;> omega) (by simp [bytesV])
              by_cases t8 : tag = 8
              · subst t8
                rw [show ((8 : Nat) : Int) = 8 from rfl] at c0
                have e00 : errS (decide (8 = 0)) ⟨8, text, bits, ka, kb⟩ = 0 := by simp [errS]
                simp (disch := first | omega | assumption) only [C.pool_Write_gos, T.tv, ↓reduceIte, Nat.reduceEqDiff, reduceCtorEq, Nat.reduceLeDiff, Nat.reducePow, Int.reducePow, Int.reduceToNat, Nat.reduceAdd, c0, c2, decide_true, decide_false, Int.reduceEq]
                refine eff_lits T.slT_69 rfl rfl (by decide) ?_
                simp (disch := first | omega | assumption) only [C.pool_Write_gos, T.tv, ↓reduceIte, Nat.reduceEqDiff, reduceCtorEq, Nat.reduceLeDiff, Nat.reducePow, Int.reducePow, Int.reduceToNat, Nat.reduceAdd]
                refine eff_append_own (m := 1) T.slT_69 rfl rfl (own3.push _) rfl (Rd_new (vs := [.int .u8 8])) (by simp [oneCell]) (by omega) (by omega) (by have := hext3.size; simp; omega) ?_
                intro v5 h5 own5 fr5 _
                have hext5 : Ext h h5 := Ext.app (hext3.trans (Ext.push _ _)) fr5 (fun k hk => (own3.lt k hk).1)
                have b5 := Fr_blk fr5 (push_blk b3) (Own_ne own3 b3 (by decide))
                have k2 : cellAt h5 ⟨hc.size, 2, none⟩ = some (.int .u64 (bits : Int)) := by rw [cellAt_of b5]; rfl
                have k3 : cellAt h5 ⟨hc.size, 3, none⟩ = some (.int .u16 (ka : Int)) := by rw [cellAt_of b5]; rfl
                have k4 : cellAt h5 ⟨hc.size, 4, none⟩ = some (.int .u16 (kb : Int)) := by rw [cellAt_of b5]; rfl
                have wa : IntKind.u64.wrap (ka : Int) = (ka : Int) := wrap_u64 (by omega) (by have := hfit.a; simp only at this; omega)
                simp (disch := first | omega | assumption) only [C.pool_Write_gos, T.tv, ↓reduceIte, Nat.reduceEqDiff, reduceCtorEq, Nat.reduceLeDiff, Nat.reducePow, Int.reducePow, Int.reduceToNat, Nat.reduceAdd, k2, k3, k4, wa]
                refine eff_callF rfl ((big_any ka 2 h5 (by have := hfit.a; simp only at this; omega) (by omega)).mono ?_)
                rintro v6 h6 ⟨x6, rfl⟩
                simp (disch := first | omega | assumption) only [C.pool_Write_gos, T.tv, ↓reduceIte, Nat.reduceEqDiff, reduceCtorEq, Nat.reduceLeDiff, Nat.reducePow, Int.reducePow, Int.reduceToNat, Nat.reduceAdd]
                have own6 := own5.ext x6
                have hext6 := hext5.trans x6
                refine eff_append_str T.slT_69 Try.underlying9 rfl rfl own6 (by rw [bigS_len]; omega) (by rw [bigS_len]; omega) hext6.size ?_
                intro v7 h7 own7 fr7
                have hext7 : Ext h h7 := Ext.app hext6 fr7 (fun k hk => (own6.lt k hk).1)
                simp (disch := first | omega | assumption) only [C.pool_Write_gos, T.tv, ↓reduceIte, Nat.reduceEqDiff, reduceCtorEq, Nat.reduceLeDiff, Nat.reducePow, Int.reducePow, Int.reduceToNat, Nat.reduceAdd]
                have one1 : oneS ⟨8, text, bits, ka, kb⟩ = UInt8.ofNat 8 :: bigS ka 2 := by simp [oneS, bodyS]
                refine fin v7 h7 false i rfl e00 rfl ?_ ?_ hext7
                · rw [one1]; simp [bigS_len]
                · rw [one1]
                  refine Own_cast own7 (by simp [bigS_len] <;> omega) (by simp [bytesV])
              by_cases t9 : tag = 9
              · subst t9
                rw [show ((9 : Nat) : Int) = 9 from rfl] at c0
                have e00 : errS (decide (9 = 0)) ⟨9, text, bits, ka, kb⟩ = 0 := by simp [errS]
                simp (disch := first | omega | assumption) only [C.pool_Write_gos, T.tv, ↓reduceIte, Nat.reduceEqDiff, reduceCtorEq, Nat.reduceLeDiff, Nat.reducePow, Int.reducePow, Int.reduceToNat, Nat.reduceAdd, c0, c2, decide_true, decide_false, Int.reduceEq]
                refine eff_lits T.slT_69 rfl rfl (by decide) ?_
                simp (disch := first | omega | assumption) only [C.pool_Write_gos, T.tv, ↓reduceIte, Nat.reduceEqDiff, reduceCtorEq, Nat.reduceLeDiff, Nat.reducePow, Int.reducePow, Int.reduceToNat, Nat.reduceAdd]
                refine eff_append_own (m := 1) T.slT_69 rfl rfl (own3.push _) rfl (Rd_new (vs := [.int .u8 9])) (by simp [oneCell]) (by omega) (by omega) (by have := hext3.size; simp; omega) ?_
                intro v5 h5 own5 fr5 _
                have hext5 : Ext h h5 := Ext.app (hext3.trans (Ext.push _ _)) fr5 (fun k hk => (own3.lt k hk).1)
                have b5 := Fr_blk fr5 (push_blk b3) (Own_ne own3 b3 (by decide))
                have k2 : cellAt h5 ⟨hc.size, 2, none⟩ = some (.int .u64 (bits : Int)) := by rw [cellAt_of b5]; rfl
                have k3 : cellAt h5 ⟨hc.size, 3, none⟩ = some (.int .u16 (ka : Int)) := by rw [cellAt_of b5]; rfl
                have k4 : cellAt h5 ⟨hc.size, 4, none⟩ = some (.int .u16 (kb : Int)) := by rw [cellAt_of b5]; rfl
                have wa : IntKind.u64.wrap (ka : Int) = (ka : Int) := wrap_u64 (by omega) (by have := hfit.a; simp only at this; omega)
                have wb : IntKind.u64.wrap (kb : Int) = (kb : Int) := wrap_u64 (by omega) (by have := hfit.b; simp only at this; omega)
                have wo := or_pair hfit.a hfit.b
                simp only at wo
                have ws : IntKind.u64.wrap ((ka : Int) * 65536) = (ka : Int) * 65536 := wrap_u64 (by omega) (by have := hfit.a; simp only at this; omega)
                simp (disch := first | omega | assumption) only [C.pool_Write_gos, T.tv, ↓reduceIte, Nat.reduceEqDiff, reduceCtorEq, Nat.reduceLeDiff, Nat.reducePow, Int.reducePow, Int.reduceToNat, Nat.reduceAdd, k2, k3, k4, wa, wb, ws, wo]
                refine eff_callF rfl ((big_any (ka * 65536 + kb) 4 h5 (by have := hfit.a; have := hfit.b; simp only at *; omega) (by omega)).mono ?_)
                rintro v6 h6 ⟨x6, rfl⟩
                simp (disch := first | omega | assumption) only [C.pool_Write_gos, T.tv, ↓reduceIte, Nat.reduceEqDiff, reduceCtorEq, Nat.reduceLeDiff, Nat.reducePow, Int.reducePow, Int.reduceToNat, Nat.reduceAdd]
                have own6 := own5.ext x6
                have hext6 := hext5.trans x6
                refine eff_append_str T.slT_69 Try.underlying9 rfl rfl own6 (by rw [bigS_len]; omega) (by rw [bigS_len]; omega) hext6.size ?_
                intro v7 h7 own7 fr7
                have hext7 : Ext h h7 := Ext.app hext6 fr7 (fun k hk => (own6.lt k hk).1)
                simp (disch := first | omega | assumption) only [C.pool_Write_gos, T.tv, ↓reduceIte, Nat.reduceEqDiff, reduceCtorEq, Nat.reduceLeDiff, Nat.reducePow, Int.reducePow, Int.reduceToNat, Nat.reduceAdd]
                have one1 : oneS ⟨9, text, bits, ka, kb⟩ = UInt8.ofNat 9 :: bigS (ka * 65536 + kb) 4 := by rw [bigS_pair hfit.a hfit.b]; simp [oneS, bodyS]
                refine fin v7 h7 false i rfl e00 rfl ?_ ?_ hext7
                · rw [one1]; simp [bigS_len]
                · rw [one1]
                  refine Own_cast own7 (by simp [bigS_len] <;> omega) (by simp [bytesV])
              by_cases t10 : tag = 10
              · subst t10
                rw [show ((10 : Nat) : Int) = 10 from rfl] at c0
                have e00 : errS (decide (10 = 0)) ⟨10, text, bits, ka, kb⟩ = 0 := by simp [errS]
                simp (disch := first | omega | assumption) only [C.pool_Write_gos, T.tv, ↓reduceIte, Nat.reduceEqDiff, reduceCtorEq, Nat.reduceLeDiff, Nat.reducePow, Int.reducePow, Int.reduceToNat, Nat.reduceAdd, c0, c2, decide_true, decide_false, Int.reduceEq]
                refine eff_lits T.slT_69 rfl rfl (by decide) ?_
                simp (disch := first | omega | assumption) only [C.pool_Write_gos, T.tv, ↓reduceIte, Nat.reduceEqDiff, reduceCtorEq, Nat.reduceLeDiff, Nat.reducePow, Int.reducePow, Int.reduceToNat, Nat.reduceAdd]
                refine eff_append_own (m := 1) T.slT_69 rfl rfl (own3.push _) rfl (Rd_new (vs := [.int .u8 10])) (by simp [oneCell]) (by omega) (by omega) (by have := hext3.size; simp; omega) ?_
                intro v5 h5 own5 fr5 _
                have hext5 : Ext h h5 := Ext.app (hext3.trans (Ext.push _ _)) fr5 (fun k hk => (own3.lt k hk).1)
                have b5 := Fr_blk fr5 (push_blk b3) (Own_ne own3 b3 (by decide))
                have k2 : cellAt h5 ⟨hc.size, 2, none⟩ = some (.int .u64 (bits : Int)) := by rw [cellAt_of b5]; rfl
                have k3 : cellAt h5 ⟨hc.size, 3, none⟩ = some (.int .u16 (ka : Int)) := by rw [cellAt_of b5]; rfl
                have k4 : cellAt h5 ⟨hc.size, 4, none⟩ = some (.int .u16 (kb : Int)) := by rw [cellAt_of b5]; rfl
                have wa : IntKind.u64.wrap (ka : Int) = (ka : Int) := wrap_u64 (by omega) (by have := hfit.a; simp only at this; omega)
                have wb : IntKind.u64.wrap (kb : Int) = (kb : Int) := wrap_u64 (by omega) (by have := hfit.b; simp only at this; omega)
                have wo := or_pair hfit.a hfit.b
                simp only at wo
                have ws : IntKind.u64.wrap ((ka : Int) * 65536) = (ka : Int) * 65536 := wrap_u64 (by omega) (by have := hfit.a; simp only at this; omega)
                simp (disch := first | omega | assumption) only [C.pool_Write_gos, T.tv, ↓reduceIte, Nat.reduceEqDiff, reduceCtorEq, Nat.reduceLeDiff, Nat.reducePow, Int.reducePow, Int.reduceToNat, Nat.reduceAdd, k2, k3, k4, wa, wb, ws, wo]
                refine eff_callF rfl ((big_any (ka * 65536 + kb) 4 h5 (by have := hfit.a; have := hfit.b; simp only at *; omega) (by omega)).mono ?_)
                rintro v6 h6 ⟨x6, rfl⟩
                simp (disch := first | omega | assumption) only [C.pool_Write_gos, T.tv, ↓reduceIte, Nat.reduceEqDiff, reduceCtorEq, Nat.reduceLeDiff, Nat.reducePow, Int.reducePow, Int.reduceToNat, Nat.reduceAdd]
                have own6 := own5.ext x6
                have hext6 := hext5.trans x6
                refine eff_append_str T.slT_69 Try.underlying9 rfl rfl own6 (by rw [bigS_len]; omega) (by rw [bigS_len]; omega) hext6.size ?_
                intro v7 h7 own7 fr7
                have hext7 : Ext h h7 := Ext.app hext6 fr7 (fun k hk => (own6.lt k hk).1)
                simp (disch := first | omega | assumption) only [C.pool_Write_gos, T.tv, ↓reduceIte, Nat.reduceEqDiff, reduceCtorEq, Nat.reduceLeDiff, Nat.reducePow, Int.reducePow, Int.reduceToNat, Nat.reduceAdd]
                have one1 : oneS ⟨10, text, bits, ka, kb⟩ = UInt8.ofNat 10 :: bigS (ka * 65536 + kb) 4 := by rw [bigS_pair hfit.a hfit.b]; simp [oneS, bodyS]
                refine fin v7 h7 false i rfl e00 rfl ?_ ?_ hext7
                · rw [one1]; simp [bigS_len]
                · rw [one1]
                  refine Own_cast own7 (by simp [bigS_len] <;> omega) (by simp [bytesV])
              by_cases t11 : tag = 11
              · subst t11
                rw [show ((11 : Nat) : Int) = 11 from rfl] at c0
                have e00 : errS (decide (11 = 0)) ⟨11, text, bits, ka, kb⟩ = 0 := by simp [errS]
                simp (disch := first | omega | assumption) only [C.pool_Write_gos, T.tv, ↓reduceIte, Nat.reduceEqDiff, reduceCtorEq, Nat.reduceLeDiff, Nat.reducePow, Int.reducePow, Int.reduceToNat, Nat.reduceAdd, c0, c2, decide_true, decide_false, Int.reduceEq]
                refine eff_lits T.slT_69 rfl rfl (by decide) ?_
                simp (disch := first | omega | assumption) only [C.pool_Write_gos, T.tv, ↓reduceIte, Nat.reduceEqDiff, reduceCtorEq, Nat.reduceLeDiff, Nat.reducePow, Int.reducePow, Int.reduceToNat, Nat.reduceAdd]
                refine eff_append_own (m := 1) T.slT_69 rfl rfl (own3.push _) rfl (Rd_new (vs := [.int .u8 11])) (by simp [oneCell]) (by omega) (by omega) (by have := hext3.size; simp; omega) ?_
                intro v5 h5 own5 fr5 _
                have hext5 : Ext h h5 := Ext.app (hext3.trans (Ext.push _ _)) fr5 (fun k hk => (own3.lt k hk).1)
                have b5 := Fr_blk fr5 (push_blk b3) (Own_ne own3 b3 (by decide))
                have k2 : cellAt h5 ⟨hc.size, 2, none⟩ = some (.int .u64 (bits : Int)) := by rw [cellAt_of b5]; rfl
                have k3 : cellAt h5 ⟨hc.size, 3, none⟩ = some (.int .u16 (ka : Int)) := by rw [cellAt_of b5]; rfl
                have k4 : cellAt h5 ⟨hc.size, 4, none⟩ = some (.int .u16 (kb : Int)) := by rw [cellAt_of b5]; rfl
                have wa : IntKind.u64.wrap (ka : Int) = (ka : Int) := wrap_u64 (by omega) (by have := hfit.a; simp only at this; omega)
                have wb : IntKind.u64.wrap (kb : Int) = (kb : Int) := wrap_u64 (by omega) (by have := hfit.b; simp only at this; omega)
                have wo := or_pair hfit.a hfit.b
                simp only at wo
                have ws : IntKind.u64.wrap ((ka : Int) * 65536) = (ka : Int) * 65536 := wrap_u64 (by omega) (by have := hfit.a; simp only at this; omega)
                simp (disch := first | omega | assumption) only [C.pool_Write_gos, T.tv, ↓reduceIte, Nat.reduceEqDiff, reduceCtorEq, Nat.reduceLeDiff, Nat.reducePow, Int.reducePow, Int.reduceToNat, Nat.reduceAdd, k2, k3, k4, wa, wb, ws, wo]
                refine eff_callF rfl ((big_any (ka * 65536 + kb) 4 h5 (by have := hfit.a; have := hfit.b; simp only at *; omega) (by omega)).mono ?_)
                rintro v6 h6 ⟨x6, rfl⟩
                simp (disch := first | omega | assumption) only [C.pool_Write_gos, T.tv, ↓reduceIte, Nat.reduceEqDiff, reduceCtorEq, Nat.reduceLeDiff, Nat.reducePow, Int.reducePow, Int.reduceToNat, Nat.reduceAdd]
                have own6 := own5.ext x6
                have hext6 := hext5.trans x6
                refine eff_append_str T.slT_69 Try.underlying9 rfl rfl own6 (by rw [bigS_len]; omega) (by rw [bigS_len]; omega) hext6.size ?_
                intro v7 h7 own7 fr7
                have hext7 : Ext h h7 := Ext.app hext6 fr7 (fun k hk => (own6.lt k hk).1)
                simp (disch := first | omega | assumption) only [C.pool_Write_gos, T.tv, ↓reduceIte, Nat.reduceEqDiff, reduceCtorEq, Nat.reduceLeDiff, Nat.reducePow, Int.reducePow, Int.reduceToNat, Nat.reduceAdd]
                have one1 : oneS ⟨11, text, bits, ka, kb⟩ = UInt8.ofNat 11 :: bigS (ka * 65536 + kb) 4 := by rw [bigS_pair hfit.a hfit.b]; simp [oneS, bodyS]
                refine fin v7 h7 false i rfl e00 rfl ?_ ?_ hext7
                · rw [one1]; simp [bigS_len]
                · rw [one1]
                  refine Own_cast own7 (by simp [bigS_len] <;> omega) (by simp [bytesV])
              by_cases t12 : tag = 12
              · subst t12
                rw [show ((12 : Nat) : Int) = 12 from rfl] at c0
                have e00 : errS (decide (12 = 0)) ⟨12, text, bits, ka, kb⟩ = 0 := by simp [errS]
                simp (disch := first | omega | assumption) only [C.pool_Write_gos, T.tv, ↓reduceIte, Nat.reduceEqDiff, reduceCtorEq, Nat.reduceLeDiff, Nat.reducePow, Int.reducePow, Int.reduceToNat, Nat.reduceAdd, c0, c2, decide_true, decide_false, Int.reduceEq]
                refine eff_lits T.slT_69 rfl rfl (by decide) ?_
                simp (disch := first | omega | assumption) only [C.pool_Write_gos, T.tv, ↓reduceIte, Nat.reduceEqDiff, reduceCtorEq, Nat.reduceLeDiff, Nat.reducePow, Int.reducePow, Int.reduceToNat, Nat.reduceAdd]
                refine eff_append_own (m := 1) T.slT_69 rfl rfl (own3.push _) rfl (Rd_new (vs := [.int .u8 12])) (by simp [oneCell]) (by omega) (by omega) (by have := hext3.size; simp; omega) ?_
                intro v5 h5 own5 fr5 _
                have hext5 : Ext h h5 := Ext.app (hext3.trans (Ext.push _ _)) fr5 (fun k hk => (own3.lt k hk).1)
                have b5 := Fr_blk fr5 (push_blk b3) (Own_ne own3 b3 (by decide))
                have k2 : cellAt h5 ⟨hc.size, 2, none⟩ = some (.int .u64 (bits : Int)) := by rw [cellAt_of b5]; rfl
                have k3 : cellAt h5 ⟨hc.size, 3, none⟩ = some (.int .u16 (ka : Int)) := by rw [cellAt_of b5]; rfl
                have k4 : cellAt h5 ⟨hc.size, 4, none⟩ = some (.int .u16 (kb : Int)) := by rw [cellAt_of b5]; rfl
                have wa : IntKind.u64.wrap (ka : Int) = (ka : Int) := wrap_u64 (by omega) (by have := hfit.a; simp only at this; omega)
                have wb : IntKind.u64.wrap (kb : Int) = (kb : Int) := wrap_u64 (by omega) (by have := hfit.b; simp only at this; omega)
                have wo := or_pair hfit.a hfit.b
                simp only at wo
                have ws : IntKind.u64.wrap ((ka : Int) * 65536) = (ka : Int) * 65536 := wrap_u64 (by omega) (by have := hfit.a; simp only at this; omega)
                simp (disch := first | omega | assumption) only [C.pool_Write_gos, T.tv, ↓reduceIte, Nat.reduceEqDiff, reduceCtorEq, Nat.reduceLeDiff, Nat.reducePow, Int.reducePow, Int.reduceToNat, Nat.reduceAdd, k2, k3, k4, wa, wb, ws, wo]
                refine eff_callF rfl ((big_any (ka * 65536 + kb) 4 h5 (by have := hfit.a; have := hfit.b; simp only at *; omega) (by omega)).mono ?_)
                rintro v6 h6 ⟨x6, rfl⟩
                simp (disch := first | omega | assumption) only [C.pool_Write_gos, T.tv, ↓reduceIte, Nat.reduceEqDiff, reduceCtorEq, Nat.reduceLeDiff, Nat.reducePow, Int.reducePow, Int.reduceToNat, Nat.reduceAdd]
                have own6 := own5.ext x6
                have hext6 := hext5.trans x6
                refine eff_append_str T.slT_69 Try.underlying9 rfl rfl own6 (by rw [bigS_len]; omega) (by rw [bigS_len]; omega) hext6.size ?_
                intro v7 h7 own7 fr7
                have hext7 : Ext h h7 := Ext.app hext6 fr7 (fun k hk => (own6.lt k hk).1)
                simp (disch := first | omega | assumption) only [C.pool_Write_gos, T.tv, ↓reduceIte, Nat.reduceEqDiff, reduceCtorEq, Nat.reduceLeDiff, Nat.reducePow, Int.reducePow, Int.reduceToNat, Nat.reduceAdd]
                have one1 : oneS ⟨12, text, bits, ka, kb⟩ = UInt8.ofNat 12 :: bigS (ka * 65536 + kb) 4 := by rw [bigS_pair hfit.a hfit.b]; simp [oneS, bodyS]
                refine fin v7 h7 false i rfl e00 rfl ?_ ?_ hext7
                · rw [one1]; simp [bigS_len]
                · rw [one1]
                  refine Own_cast own7 (by simp [bigS_len] <;> omega) (by simp [bytesV])
              have e55 : errS (decide (tag = 0)) ⟨tag, text, bits, ka, kb⟩ = 5 := by
                have : tag = 2 ∨ 12 < tag := by omega
                simp [errS, t0, t1, t3, t4, this]
              rw [hwi, er (by rw [e55]; decide), e55]
              have n0 : ¬ (tag : Int) = 0 := by omega
              have n1 : ¬ (tag : Int) = 1 := by omega
              have n3 : ¬ (tag : Int) = 3 := by omega
              have n4 : ¬ (tag : Int) = 4 := by omega
              have n5 : ¬ (tag : Int) = 5 := by omega
              have n6 : ¬ (tag : Int) = 6 := by omega
              have n7 : ¬ (tag : Int) = 7 := by omega
              have n8 : ¬ (tag : Int) = 8 := by omega
              have n9 : ¬ (tag : Int) = 9 := by omega
              have n10 : ¬ (tag : Int) = 10 := by omega
              have n11 : ¬ (tag : Int) = 11 := by omega
              have n12 : ¬ (tag : Int) = 12 := by omega
              have d0 : decide (tag = 0) = false := by simp [t0]
              simp (disch := first | omega | assumption) only [C.pool_Write_gos, T.tv, ↓reduceIte, Nat.reduceEqDiff, reduceCtorEq, Nat.reduceLeDiff, Nat.reducePow, Int.reducePow, Int.reduceToNat, Nat.reduceAdd, c0, d0, eq_false n0, eq_false n1, eq_false n3, eq_false n4, eq_false n5, eq_false n6, eq_false n7, eq_false n8, eq_false n9, eq_false n10, eq_false n11, eq_false n12, decide_false]
              exact ⟨hext3, rfl⟩
              -- END
      · have hlt' : ¬ (i : Int) < cs.length := by omega
        have hin : i = cs.length := by omega
        have hd : cs.drop i = [] := by rw [hin]; simp
        rw [hd] at hwi
        cases e with
        | true =>
          have hw2 : writeS cs = ([], 5, cs.length) := by rw [hwi, wrS, if_pos rfl, hin]
          rw [hw2]
          simp (disch := first | omega | assumption) only [C.pool_Write_gos, T.tv, ↓reduceIte, Nat.reduceEqDiff, reduceCtorEq, Nat.reduceLeDiff, Nat.reducePow, Int.reducePow, Int.reduceToNat, Nat.reduceAdd, hlt']
          exact ⟨hext, rfl⟩
        | false =>
          have hw2 : writeS cs = (out, 0, 0) := by rw [hwi, wrS]; rfl
          rw [hw2]
          simp (disch := first | omega | assumption) only [C.pool_Write_gos, T.tv, ↓reduceIte, Nat.reduceEqDiff, reduceCtorEq, Nat.reduceLeDiff, Nat.reducePow, Int.reducePow, Int.reduceToNat, Nat.reduceAdd, hlt', T.cvo_69_9 hown]
          exact ⟨hext, rfl⟩
end Go.Proofs.Ytohkbpnblkkdgaa

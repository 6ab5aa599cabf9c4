/- A map that is read, is written, and is read again as it was (plain): frames. -/
import Derived.Test.YtohkbpnblkkdgaaMQ
namespace Go.Proofs.Ytohkbpnblkkdgaa
open Go.Vc
set_option maxRecDepth 100000
set_option linter.unusedSimpArgs false
set_option linter.unusedVariables false

theorem likeQ_same {L loc : List VT} (hn : L.length = loc.length) : likeS L loc = decide (L = loc) := by
  unfold likeS
  have h1 : min L.length loc.length = L.length := by omega
  rw [h1, List.take_length, hn, List.take_length]
theorem likeQ_short {L loc : List VT} (hn : L.length ≤ loc.length) : likeS L loc = decide (L = loc.take L.length) := by
  unfold likeS
  have h1 : min L.length loc.length = L.length := by omega
  rw [h1, List.take_length]
theorem likeQ_long {L loc : List VT} (hn : loc.length ≤ L.length) : likeS L loc = decide (L.take loc.length = loc) := by
  unfold likeS
  have h1 : min L.length loc.length = loc.length := by omega
  rw [h1, List.take_length]
def Non (L S loc : List VT) : Prop := likeS L loc = true ∧ ((L.length = loc.length ∧ S.length ≤ 1) ∨ (S.length = 0 ∧ ((L.length < loc.length ∧ loc.length ≤ L.length + 3) ∨ (loc.length < L.length ∧ L.length ≤ loc.length + 3))))
theorem big1 (x : Nat) (r : List UInt8) (hx : x < 256) : UInt8.ofNat x :: r = bigS x 1 ++ r := by rw [bigS_one, Nat.mod_eq_of_lt hx]; rfl
section
variable {p : List Cst} {loc L S : List VT} {d : Nat} {a : Int} {t : List UInt8} {s : RS} {rest : List UInt8}
/-- The tag, read. -/
theorem tag_at {x : Nat} {r : List UInt8} (hx : x < 256) (he : s.e = 0) (ht : t.drop s.p = UInt8.ofNat x :: r) : numS t 1 s = (x, ⟨s.p + 1, 0, s.es⟩) ∧ t.drop (s.p + 1) = r := by
  rw [big1 x r hx] at ht
  exact numS_at he (by decide) ht (by simpa using hx)
theorem def_back (hp : p.length < 65536) (hd : d < 65536) (hL : L.length ≤ 65535) (hS : S.length ≤ 65535) (GS : ∀ v ∈ S, GoodV p v) (GL : ∀ v ∈ L, GoodV p v)
    (h0 : (defS p ⟨a, L, S⟩ d).2 = 0) (he : s.e = 0) (ht : t.drop s.p = (defS p ⟨a, L, S⟩ d).1 ++ rest) :
    frmD p t loc s = (⟨0, L, S⟩, d, ⟨s.p + (defS p ⟨a, L, S⟩ d).1.length, 0, s.es⟩) ∧ t.drop (s.p + (defS p ⟨a, L, S⟩ d).1.length) = rest := by
  unfold defS at h0 ht ⊢
  simp only at h0 ht ⊢
  obtain ⟨z1, z2⟩ := thenE_zero' h0
  simp only [List.cons_append, List.append_assoc] at ht
  obtain ⟨q1, q2⟩ := tag_at (by decide) he ht
  obtain ⟨q3, q4⟩ := numS_at (s := ⟨s.p + 1, 0, s.es⟩) rfl (by decide) q2 (by simp only [Nat.reducePow]; omega)
  obtain ⟨q5, q6⟩ := numS_at (s := ⟨s.p + 1 + 2, 0, s.es⟩) rfl (by decide) q4 (by simp only [Nat.reducePow]; omega)
  obtain ⟨q7, q8⟩ := valsD_at hp L [] ⟨s.p + 1 + 2 + 2, 0, s.es⟩ _ GL z1 rfl q6
  obtain ⟨q9, q10⟩ := numS_at (s := ⟨s.p + 1 + 2 + 2 + (valsS p L).1.length, 0, s.es⟩) rfl (by decide) q8 (by simp only [Nat.reducePow]; omega)
  obtain ⟨q11, q12⟩ := valsD_at hp S [] ⟨s.p + 1 + 2 + 2 + (valsS p L).1.length + 2, 0, s.es⟩ _ GS z2 rfl q10
  have hlen : s.p + (UInt8.ofNat 255 :: (bigS d 2 ++ bigS L.length 2 ++ (valsS p L).1 ++ bigS S.length 2 ++ (valsS p S).1)).length = s.p + 1 + 2 + 2 + (valsS p L).1.length + 2 + (valsS p S).1.length := by
    simp only [List.length_cons, List.length_append, bigS_len]; omega
  rw [hlen]
  refine ⟨?_, q12⟩
  unfold frmD
  simp only [q1, q3, q5, q7, q9, q11, Nat.reduceLT, Nat.reduceEqDiff, if_false, List.nil_append]
theorem frS_back (hp : p.length < 65536) (hd : d < 65536) (hL : L.length ≤ 65535) (hS : S.length ≤ 65535) (GS : ∀ v ∈ S, GoodV p v)
    (GD : likeS L loc = true → loc.length < L.length → ∀ v ∈ L.drop loc.length, GoodV p v) (GE : Non L S loc ∨ ∀ v ∈ L, GoodV p v)
    (h0 : (frS p ⟨a, L, S⟩ d loc).2 = 0) (he : s.e = 0) (ht : t.drop s.p = (frS p ⟨a, L, S⟩ d loc).1 ++ rest) :
    frmD p t loc s = (⟨0, L, S⟩, d, ⟨s.p + (frS p ⟨a, L, S⟩ d loc).1.length, 0, s.es⟩) ∧ t.drop (s.p + (frS p ⟨a, L, S⟩ d loc).1.length) = rest := by
  have hdef : (¬ Non L S loc) → frS p ⟨a, L, S⟩ d loc = defS p ⟨a, L, S⟩ d → (frmD p t loc s = (⟨0, L, S⟩, d, ⟨s.p + (frS p ⟨a, L, S⟩ d loc).1.length, 0, s.es⟩) ∧ t.drop (s.p + (frS p ⟨a, L, S⟩ d loc).1.length) = rest) := fun hn e => by
    rw [e] at h0 ht ⊢
    exact def_back (loc := loc) hp hd hL hS GS (GE.resolve_left hn) h0 he ht
  by_cases hk : likeS L loc = true
  case neg => exact hdef (fun hn => hk hn.1) (by unfold frS; rw [if_neg hk])
  by_cases hn : L.length = loc.length
  · have hLe : L = loc := by have := likeQ_same hn; rw [hk] at this; exact of_decide_eq_true this.symm
    subst hLe
    match S, hS, GS, GE, h0, ht, hdef with
    | [], _, _, _, h0, ht, _ =>
      by_cases h64 : d < 64
      · have e : frS p ⟨a, L, []⟩ d L = ([UInt8.ofNat d], 0) := by unfold frS; simp only [hk, if_true, List.length_nil, h64]
        rw [e] at ht ⊢
        obtain ⟨q1, q2⟩ := tag_at (by omega) he ht
        refine ⟨?_, q2⟩
        unfold frmD
        simp only [q1, if_pos h64, List.length_cons, List.length_nil]
      · have e : frS p ⟨a, L, []⟩ d L = (UInt8.ofNat 251 :: bigS d 2, 0) := by unfold frS; simp only [hk, if_true, List.length_nil, h64, if_false]
        rw [e] at ht ⊢
        obtain ⟨q1, q2⟩ := tag_at (by decide) he ht
        obtain ⟨q3, q4⟩ := numS_at (s := ⟨s.p + 1, 0, s.es⟩) rfl (by decide) q2 (by simp only [Nat.reducePow]; omega)
        refine ⟨?_, by simp only [List.length_cons, bigS_len]; exact q4⟩
        unfold frmD
        simp only [q1, q3, Nat.reduceLT, Nat.reduceEqDiff, if_false, if_true, Nat.sub_self, valsD, List.append_nil, List.length_cons, bigS_len]
    | [v], _, GS, _, h0, ht, _ =>
      by_cases h64 : d < 64
      · have e : frS p ⟨a, L, [v]⟩ d L = (UInt8.ofNat (64 + d) :: (valsS p [v]).1, (valsS p [v]).2) := by unfold frS; simp only [hk, if_true, List.length_cons, List.length_nil, h64, Nat.reduceAdd, Nat.reduceEqDiff, if_false]
        rw [e] at h0 ht ⊢
        simp only [List.cons_append] at ht
        obtain ⟨q1, q2⟩ := tag_at (by omega) he ht
        obtain ⟨q3, q4⟩ := valsD_at hp [v] [] ⟨s.p + 1, 0, s.es⟩ _ GS h0 rfl q2
        refine ⟨?_, by simp only [List.length_cons]; rw [show s.p + ((valsS p [v]).1.length + 1) = s.p + 1 + (valsS p [v]).1.length by omega]; exact q4⟩
        have q3' : valsD p t 1 [] ⟨s.p + 1, 0, s.es⟩ = _ := q3
        unfold frmD
        simp only [q1, q3', if_neg (show ¬ 64 + d < 64 by omega), if_pos (show 64 + d < 128 by omega), List.length_cons, Nat.add_sub_cancel_left, List.nil_append]
        rw [show s.p + 1 + (valsS p [v]).1.length = s.p + ((valsS p [v]).1.length + 1) by omega]
      · have e : frS p ⟨a, L, [v]⟩ d L = (UInt8.ofNat 247 :: (bigS d 2 ++ (valsS p [v]).1), (valsS p [v]).2) := by unfold frS; simp only [hk, if_true, List.length_cons, List.length_nil, h64, Nat.reduceAdd, Nat.reduceEqDiff, if_false]
        rw [e] at h0 ht ⊢
        simp only [List.cons_append, List.append_assoc] at ht
        obtain ⟨q1, q2⟩ := tag_at (by decide) he ht
        obtain ⟨q5, q6⟩ := numS_at (s := ⟨s.p + 1, 0, s.es⟩) rfl (by decide) q2 (by simp only [Nat.reducePow]; omega)
        obtain ⟨q3, q4⟩ := valsD_at hp [v] [] ⟨s.p + 1 + 2, 0, s.es⟩ _ GS h0 rfl q6
        have hl : s.p + (UInt8.ofNat 247 :: (bigS d 2 ++ (valsS p [v]).1)).length = s.p + 1 + 2 + (valsS p [v]).1.length := by simp only [List.length_cons, List.length_append, bigS_len]; omega
        rw [hl]
        refine ⟨?_, q4⟩
        have q3' : valsD p t 1 [] ⟨s.p + 1 + 2, 0, s.es⟩ = _ := q3
        unfold frmD
        simp only [q1, q5, q3', Nat.reduceLT, Nat.reduceEqDiff, if_false, if_true, List.nil_append]
    | v :: w :: r, _, _, _, _, _, hdef =>
      exact hdef (fun hn => by have := hn.2; simp only [List.length_cons] at this; omega) (by unfold frS; simp only [hk, if_true, List.length_cons, if_neg (show ¬ r.length + 1 + 1 = 0 by omega), if_neg (show ¬ r.length + 1 + 1 = 1 by omega)])
  · by_cases hS0 : S.length = 0
    case neg => exact hdef (fun h => by have := h.2; omega) (by unfold frS; simp only [hk, if_true, if_neg hn, if_neg hS0])
    have hSn : S = [] := List.length_eq_zero_iff.1 hS0
    subst hSn
    by_cases hlt : L.length < loc.length
    · by_cases h3 : loc.length ≤ L.length + 3
      case neg => exact hdef (fun h => by have := h.2; omega) (by unfold frS; simp only [hk, if_true, if_neg hn, List.length_nil, if_pos hlt, if_neg h3])
      have hLe : L = loc.take L.length := by have := likeQ_short (Nat.le_of_lt hlt); rw [hk] at this; exact of_decide_eq_true this.symm
      have e : frS p ⟨a, L, []⟩ d loc = (UInt8.ofNat (251 + L.length - loc.length) :: bigS d 2, 0) := by unfold frS; simp only [hk, if_true, if_neg hn, List.length_nil, if_pos hlt, if_pos h3]
      rw [e] at ht ⊢
      obtain ⟨q1, q2⟩ := tag_at (by omega) he ht
      obtain ⟨q3, q4⟩ := numS_at (s := ⟨s.p + 1, 0, s.es⟩) rfl (by decide) q2 (by simp only [Nat.reducePow]; omega)
      refine ⟨?_, by simp only [List.length_cons, bigS_len]; exact q4⟩
      unfold frmD
      have e2 : loc.length + (251 + L.length - loc.length) - 251 = L.length := by omega
      simp only [q1, q3, if_neg (show ¬ 251 + L.length - loc.length < 64 by omega), if_neg (show ¬ 251 + L.length - loc.length < 128 by omega), if_neg (show ¬ 251 + L.length - loc.length < 247 by omega), if_neg (show ¬ 251 + L.length - loc.length = 247 by omega),
        if_pos (show 251 + L.length - loc.length < 251 by omega), if_neg (show ¬ loc.length + (251 + L.length - loc.length) < 251 by omega), e2, ← hLe, List.length_cons, bigS_len]
    · by_cases h3 : L.length ≤ loc.length + 3
      case neg => exact hdef (fun h => by have := h.2; omega) (by unfold frS; simp only [hk, if_true, if_neg hn, List.length_nil, if_neg hlt, if_neg h3])
      have hLe : L.take loc.length = loc := by have := likeQ_long (L := L) (loc := loc) (by omega); rw [hk] at this; exact of_decide_eq_true this.symm
      have e : frS p ⟨a, L, []⟩ d loc = (UInt8.ofNat (251 + L.length - loc.length) :: (bigS d 2 ++ (valsS p (L.drop loc.length)).1), (valsS p (L.drop loc.length)).2) := by unfold frS; simp only [hk, if_true, if_neg hn, List.length_nil, if_neg hlt, if_pos h3]
      rw [e] at h0 ht ⊢
      simp only [List.cons_append, List.append_assoc] at ht
      obtain ⟨q1, q2⟩ := tag_at (by omega) he ht
      obtain ⟨q5, q6⟩ := numS_at (s := ⟨s.p + 1, 0, s.es⟩) rfl (by decide) q2 (by simp only [Nat.reducePow]; omega)
      obtain ⟨q3, q4⟩ := valsD_at hp (L.drop loc.length) [] ⟨s.p + 1 + 2, 0, s.es⟩ _ (GD hk (by omega)) h0 rfl q6
      have hl : s.p + (UInt8.ofNat (251 + L.length - loc.length) :: (bigS d 2 ++ (valsS p (L.drop loc.length)).1)).length = s.p + 1 + 2 + (valsS p (L.drop loc.length)).1.length := by simp only [List.length_cons, List.length_append, bigS_len]; omega
      rw [hl]
      refine ⟨?_, q4⟩
      have e2 : 251 + L.length - loc.length - 251 = (L.drop loc.length).length := by rw [List.length_drop]; omega
      have e3 : loc ++ L.drop loc.length = L := by
        have := List.take_append_drop loc.length L
        rw [hLe] at this; exact this
      unfold frmD
      simp only [q1, q5, e2, q3, List.nil_append, e3, if_neg (show ¬ 251 + L.length - loc.length < 64 by omega), if_neg (show ¬ 251 + L.length - loc.length < 128 by omega), if_neg (show ¬ 251 + L.length - loc.length < 247 by omega), if_neg (show ¬ 251 + L.length - loc.length = 247 by omega),
        if_neg (show ¬ 251 + L.length - loc.length < 251 by omega), if_pos (show 251 + L.length - loc.length < 255 by omega)]
end
end Go.Proofs.Ytohkbpnblkkdgaa

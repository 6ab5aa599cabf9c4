/- A map that is read, is written, and is read again as it was (plain): maps. -/
import Derived.Test.YtohkbpnblkkdgaaMQ2
namespace Go.Proofs.Ytohkbpnblkkdgaa
open Go.Vc
set_option maxRecDepth 100000
set_option linter.unusedSimpArgs false
set_option linter.unusedVariables false

theorem valS_pos (p : List Cst) (v : VT) : 1 ≤ (valS p v).1.length := by
  unfold valS
  split
  · simp
  · split <;> simp
theorem valsS_ge (p : List Cst) (l : List VT) : l.length ≤ (valsS p l).1.length := by
  induction l with
  | nil => simp
  | cons v r ih => have := valS_pos p v; simp only [valsS, List.length_append, List.length_cons]; omega
theorem valsS_drop (p : List Cst) : ∀ (l : List VT) (k : Nat), (valsS p (l.drop k)).1.length ≤ (valsS p l).1.length
  | [], k => by simp
  | v :: r, 0 => by simp
  | v :: r, k + 1 => by
    have := valsS_drop p r k
    simp only [List.drop_succ_cons, valsS, List.length_append]
    omega
/-- What is said of a frame that was read. -/
structure FOk (p : List Cst) (loc : List VT) (f : Frm) (d n : Nat) : Prop where
  dd : d < 65536
  at0 : f.at' = 0
  L : f.L.length ≤ loc.length + n
  S : f.S.length ≤ n
  GS : ∀ v ∈ f.S, GoodV p v
  GD : likeS f.L loc = true → loc.length < f.L.length → ∀ v ∈ f.L.drop loc.length, GoodV p v
  GE : Non f.L f.S loc ∨ ∀ v ∈ f.L, GoodV p v
  len : ∀ a : Int, (frS p ⟨a, f.L, f.S⟩ d loc).1.length ≤ n
  err : ∀ a : Int, (frS p ⟨a, f.L, f.S⟩ d loc).2 = 0 ∨ (frS p ⟨a, f.L, f.S⟩ d loc).2 = 7
theorem like_refl (loc : List VT) : likeS loc loc = true := by rw [likeQ_same rfl]; exact decide_eq_true rfl
theorem fok_A (p : List Cst) (loc : List VT) (d n : Nat) (hd : d < 65536) (hn : 1 ≤ n) (h : d < 64 ∨ 3 ≤ n) : FOk p loc ⟨0, loc, []⟩ d n := by
  have e : ∀ a : Int, frS p ⟨a, loc, []⟩ d loc = if d < 64 then ([UInt8.ofNat d], 0) else (UInt8.ofNat 251 :: bigS d 2, 0) := fun a => by
    unfold frS; simp only [like_refl, if_true, List.length_nil]
  refine ⟨hd, rfl, by simp only; omega, by simp, by simp, fun _ h => by simp only at h; omega, .inl ⟨like_refl loc, .inl ⟨rfl, by simp⟩⟩, fun a => ?_, fun a => ?_⟩
  · rw [e]; split
    · simpa using hn
    · simp only [List.length_cons, bigS_len]; omega
  · rw [e]; split <;> exact .inl rfl
theorem fok_B (p : List Cst) (loc : List VT) (v : VT) (d n : Nat) (hd : d < 65536) (hv : GoodV p v) (h : d < 64 ∧ 1 + (valsS p [v]).1.length ≤ n ∨ 3 + (valsS p [v]).1.length ≤ n) : FOk p loc ⟨0, loc, [v]⟩ d n := by
  have e : ∀ a : Int, frS p ⟨a, loc, [v]⟩ d loc = if d < 64 then (UInt8.ofNat (64 + d) :: (valsS p [v]).1, (valsS p [v]).2) else (UInt8.ofNat 247 :: (bigS d 2 ++ (valsS p [v]).1), (valsS p [v]).2) := fun a => by
    unfold frS; simp only [like_refl, if_true, List.length_cons, List.length_nil, Nat.reduceAdd, Nat.reduceEqDiff, if_false]
  have hg : ∀ w ∈ [v], GoodV p w := fun w hw => by rw [List.mem_singleton.1 hw]; exact hv
  refine ⟨hd, rfl, by simp only; omega, by simp; omega, hg, fun _ h => by simp only at h; omega, .inl ⟨like_refl loc, .inl ⟨rfl, by simp⟩⟩, fun a => ?_, fun a => ?_⟩
  · rw [e]; split
    · simp only [List.length_cons]; omega
    · simp only [List.length_cons, List.length_append, bigS_len]; omega
  · rw [e]; split <;> exact valsS_err hg
theorem fok_C (p : List Cst) (loc : List VT) (k d n : Nat) (hd : d < 65536) (h1 : k < loc.length) (h3 : loc.length ≤ k + 3) (hn : 3 ≤ n) : FOk p loc ⟨0, loc.take k, []⟩ d n := by
  have hl : (loc.take k).length = k := by rw [List.length_take]; omega
  have hk : likeS (loc.take k) loc = true := by rw [likeQ_short (by omega), hl]; exact decide_eq_true rfl
  have e : ∀ a : Int, frS p ⟨a, loc.take k, []⟩ d loc = (UInt8.ofNat (251 + k - loc.length) :: bigS d 2, 0) := fun a => by
    unfold frS; simp only [hk, if_true, hl, if_neg (show ¬ k = loc.length by omega), List.length_nil, if_pos h1, if_pos h3]
  refine ⟨hd, rfl, by simp only [hl]; omega, by simp, by simp, fun _ h => by simp only [hl] at h; omega, .inl ⟨hk, .inr ⟨rfl, .inl (by simp only [hl]; exact ⟨h1, h3⟩)⟩⟩, fun a => ?_, fun a => ?_⟩
  · rw [e]; simp only [List.length_cons, bigS_len]; omega
  · rw [e]; exact .inl rfl
theorem fok_D (p : List Cst) (loc vs : List VT) (d n : Nat) (hd : d < 65536) (h1 : 1 ≤ vs.length) (h3 : vs.length ≤ 3) (hg : ∀ v ∈ vs, GoodV p v) (hn : 3 + (valsS p vs).1.length ≤ n) : FOk p loc ⟨0, loc ++ vs, []⟩ d n := by
  have hl : (loc ++ vs).length = loc.length + vs.length := List.length_append
  have hdr : (loc ++ vs).drop loc.length = vs := List.drop_left
  have hk : likeS (loc ++ vs) loc = true := by rw [likeQ_long (by omega), List.take_left]; exact decide_eq_true rfl
  have e : ∀ a : Int, frS p ⟨a, loc ++ vs, []⟩ d loc = (UInt8.ofNat (251 + (loc.length + vs.length) - loc.length) :: (bigS d 2 ++ (valsS p vs).1), (valsS p vs).2) := fun a => by
    unfold frS; simp only [hk, if_true, hl, if_neg (show ¬ loc.length + vs.length = loc.length by omega), List.length_nil, if_neg (show ¬ loc.length + vs.length < loc.length by omega), if_pos (show loc.length + vs.length ≤ loc.length + 3 by omega), hdr]
  have hge := valsS_ge p vs
  refine ⟨hd, rfl, by simp only [hl]; omega, by simp, by simp, fun _ _ => by simp only [hdr]; exact hg, .inl ⟨hk, .inr ⟨rfl, .inr (by simp only [hl]; omega)⟩⟩, fun a => ?_, fun a => ?_⟩
  · rw [e]; simp only [List.length_cons, List.length_append, bigS_len]; omega
  · rw [e]; exact valsS_err hg
theorem fok_E (p : List Cst) (loc L S : List VT) (d n : Nat) (hd : d < 65536) (hL : ∀ v ∈ L, GoodV p v) (hS : ∀ v ∈ S, GoodV p v) (hn : 7 + (valsS p L).1.length + (valsS p S).1.length ≤ n) : FOk p loc ⟨0, L, S⟩ d n := by
  have g1 := valsS_ge p L
  have g2 := valsS_ge p S
  have g3 := valsS_drop p L loc.length
  have hdr : ∀ v ∈ L.drop loc.length, GoodV p v := fun v hv => hL v (List.mem_of_mem_drop hv)
  have hdl : ∀ a : Int, (defS p ⟨a, L, S⟩ d).1.length ≤ n := fun a => by simp only [defS, List.length_cons, List.length_append, bigS_len]; omega
  have hde : ∀ a : Int, (defS p ⟨a, L, S⟩ d).2 = 0 ∨ (defS p ⟨a, L, S⟩ d).2 = 7 := fun a => by
    simp only [defS, thenE]
    split
    · exact valsS_err hS
    · exact valsS_err hL
  refine ⟨hd, rfl, by simp only; omega, by simp only; omega, hS, fun _ _ => hdr, .inr hL, fun a => ?_, fun a => ?_⟩
  · have := hdl a
    unfold frS
    repeat' split
    all_goals first | exact this | (simp only [List.length_cons, List.length_append, bigS_len, List.length_nil]; omega)
  · have h1 := hde a
    have h2 := valsS_err hS
    have h3 := valsS_err hdr
    unfold frS
    repeat' split
    all_goals first | exact h1 | exact h2 | exact h3 | exact .inl rfl
theorem rs_eq {a b e c : Nat} (h : a = b) : (⟨a, e, c⟩ : RS) = ⟨b, e, c⟩ := by rw [h]
theorem num_pair {l : List UInt8} {n x : Nat} {s s' : RS} (hT : numS l n s = (x, s')) (h : s'.e = 0) : s.e = 0 ∧ s' = ⟨s.p + n, 0, s.es⟩ := by
  have := numS_ok (t := l) (n := n) (s := s) (by rw [hT]; exact h)
  rw [hT] at this; exact this
theorem num_small {l : List UInt8} {n x : Nat} {s s' : RS} (hT : numS l n s = (x, s')) : x < 256 ^ n := by
  have := numS_lt (l := l) (n := n) (s := s)
  rw [hT] at this; exact this
theorem vals_pair {p : List Cst} {l : List UInt8} {n : Nat} {vs : List VT} {s s' : RS} (hT : valsD p l n [] s = (vs, s')) (h : s'.e = 0) : vs.length = n ∧ s.e = 0 ∧ (∀ v ∈ vs, GoodV p v) ∧ s' = ⟨s.p + (valsS p vs).1.length, 0, s.es⟩ := by
  obtain ⟨ws, h1, h2, h3, h4, h5⟩ := valsD_ok (p := p) (l := l) n [] s (by rw [hT]; exact h)
  rw [hT] at h2 h5
  simp only [List.nil_append] at h2 h5
  subst h2
  exact ⟨h1, h3, h4, h5⟩
theorem frm_ok {p : List Cst} {l : List UInt8} {loc : List VT} {s : RS} (h : (frmD p l loc s).2.2.e = 0) :
    s.e = 0 ∧ ∃ n, (frmD p l loc s).2.2 = ⟨s.p + n, 0, s.es⟩ ∧ FOk p loc (frmD p l loc s).1 (frmD p l loc s).2.1 n := by
  unfold frmD at h ⊢
  generalize hT : numS l 1 s = T at *
  obtain ⟨t, s1⟩ := T
  have hb1 := num_small hT
  simp only [Nat.reducePow] at hb1
  simp only at h ⊢
  by_cases t64 : t < 64
  · rw [if_pos t64] at h ⊢
    obtain ⟨h1, h2⟩ := num_pair hT h
    exact ⟨h1, 1, h2, fok_A p loc t 1 (by omega) (by omega) (.inl t64)⟩
  rw [if_neg t64] at h ⊢
  by_cases t128 : t < 128
  · rw [if_pos t128] at h ⊢
    generalize hV : valsD p l 1 [] s1 = V at *
    obtain ⟨vs, s2⟩ := V
    obtain ⟨v1, v2, v3, v4⟩ := vals_pair hV h
    obtain ⟨h1, h2⟩ := num_pair hT v2
    match vs, v1, v3, v4 with
    | [v], _, v3, v4 =>
      refine ⟨h1, 1 + (valsS p [v]).1.length, by show s2 = _; rw [v4, h2]; exact rs_eq (by first | omega | (simp only []; omega)), ?_⟩
      exact fok_B p loc v (t - 64) _ (by omega) (v3 v (by simp)) (.inl ⟨by omega, Nat.le_refl _⟩)
  rw [if_neg t128] at h ⊢
  by_cases t247 : t < 247
  · rw [if_pos t247] at h
    exact (failS_zero (by decide) h).elim
  rw [if_neg t247] at h ⊢
  generalize hU : numS l 2 s1 = U at *
  obtain ⟨d, s2⟩ := U
  have hb2 := num_small hU
  simp only [Nat.reducePow] at hb2
  simp only at h ⊢
  by_cases e247 : t = 247
  · rw [if_pos e247] at h ⊢
    generalize hV : valsD p l 1 [] s2 = V at *
    obtain ⟨vs, s3⟩ := V
    obtain ⟨v1, v2, v3, v4⟩ := vals_pair hV h
    obtain ⟨h1, h2⟩ := num_pair hU v2
    obtain ⟨h3, h4⟩ := num_pair hT h1
    match vs, v1, v3, v4 with
    | [v], _, v3, v4 =>
      refine ⟨h3, 3 + (valsS p [v]).1.length, by show s3 = _; rw [v4, h2, h4]; exact rs_eq (by first | omega | (simp only []; omega)), ?_⟩
      exact fok_B p loc v d _ hb2 (v3 v (by simp)) (.inr (Nat.le_refl _))
  rw [if_neg e247] at h ⊢
  by_cases t251 : t < 251
  · rw [if_pos t251] at h ⊢
    by_cases hk : loc.length + t < 251
    · rw [if_pos hk] at h
      exact (failS_zero (by decide) h).elim
    · rw [if_neg hk] at h ⊢
      obtain ⟨h1, h2⟩ := num_pair hU h
      obtain ⟨h3, h4⟩ := num_pair hT h1
      exact ⟨h3, 3, by show s2 = _; rw [h2, h4], fok_C p loc _ d 3 hb2 (by omega) (by omega) (Nat.le_refl _)⟩
  rw [if_neg t251] at h ⊢
  by_cases t255 : t < 255
  · rw [if_pos t255] at h ⊢
    generalize hV : valsD p l (t - 251) [] s2 = V at *
    obtain ⟨vs, s3⟩ := V
    obtain ⟨v1, v2, v3, v4⟩ := vals_pair hV h
    obtain ⟨h1, h2⟩ := num_pair hU v2
    obtain ⟨h3, h4⟩ := num_pair hT h1
    refine ⟨h3, 3 + (valsS p vs).1.length, by show s3 = _; rw [v4, h2, h4]; exact rs_eq (by first | omega | (simp only []; omega)), ?_⟩
    show FOk p loc ⟨0, loc ++ vs, []⟩ d _
    by_cases hv0 : vs.length = 0
    · have : vs = [] := List.length_eq_zero_iff.1 hv0
      subst this
      rw [List.append_nil]
      exact fok_A p loc d _ hb2 (by omega) (.inr (by omega))
    · exact fok_D p loc vs d _ hb2 (by omega) (by omega) v3 (Nat.le_refl _)
  rw [if_neg t255] at h ⊢
  generalize hN : numS l 2 s2 = N at *
  obtain ⟨n1, s3⟩ := N
  simp only at h ⊢
  generalize hV : valsD p l n1 [] s3 = V at *
  obtain ⟨vs, s4⟩ := V
  simp only at h ⊢
  generalize hM : numS l 2 s4 = M at *
  obtain ⟨n2, s5⟩ := M
  simp only at h ⊢
  generalize hW : valsD p l n2 [] s5 = W at *
  obtain ⟨ws, s6⟩ := W
  simp only at h ⊢
  obtain ⟨w1, w2, w3, w4⟩ := vals_pair hW h
  obtain ⟨g1, g2⟩ := num_pair hM w2
  obtain ⟨v1, v2, v3, v4⟩ := vals_pair hV g1
  obtain ⟨h1, h2⟩ := num_pair hN v2
  obtain ⟨h3, h4⟩ := num_pair hU h1
  obtain ⟨h5, h6⟩ := num_pair hT h3
  exact ⟨h5, 7 + (valsS p vs).1.length + (valsS p ws).1.length, by rw [w4, g2, v4, h2, h4, h6]; exact rs_eq (by first | omega | (simp only []; omega)), fok_E p loc vs ws d _ hb2 v3 w3 (Nat.le_refl _)⟩
theorem map_back {p : List Cst} {l : List UInt8} (hp : p.length < 65536) : ∀ (n : Nat) (pl : Int) (loc : List VT) (fs : List Frm) (s : RS), (mapD p l n pl loc fs s).2.e = 0 →
    ∃ gs : List Frm, (mapD p l n pl loc fs s).1 = fs ++ gs ∧ gs.length = n ∧ s.e = 0 ∧ ∃ m, (mapD p l n pl loc fs s).2 = ⟨s.p + m, 0, s.es⟩ ∧
      (∀ k out, (∀ f ∈ gs, f.at' ≤ 65535) → loc.length + m ≤ 65535 → (mapR p gs pl loc k out).2.1 = 7 ∨ ∃ bs, mapR p gs pl loc k out = (out ++ bs, 0, 0) ∧ bs.length ≤ m ∧
        ∀ t s' rest fs', s'.e = 0 → t.drop s'.p = bs ++ rest → mapD p t n pl loc fs' s' = (fs' ++ gs, ⟨s'.p + bs.length, 0, s'.es⟩) ∧ t.drop (s'.p + bs.length) = rest) := by
  intro n
  induction n with
  | zero =>
    intro pl loc fs s h
    refine ⟨[], by simp [mapD], rfl, h, 0, by simp only [mapD]; cases s; simp_all [mapD], fun k out _ _ => .inr ⟨[], by simp [mapR], by simp, fun t s' rest fs' he ht => ⟨by simp only [mapD, List.append_nil, List.length_nil]; cases s'; simp_all, by simpa using ht⟩⟩⟩
  | succ n ih =>
    intro pl loc fs s h
    by_cases he : s.e = 0
    case neg => rw [mapD_bad he] at h; exact absurd h he
    rw [mapD, if_neg (by simp [he])] at h ⊢
    obtain ⟨gs, i1, i2, i3, m, i4, i5⟩ := ih _ _ _ _ h
    obtain ⟨_, c, k1, k2⟩ := frm_ok i3
    rw [i1, i4, k1]
    generalize frmD p l loc s = X at *
    obtain ⟨f, d, s2⟩ := X
    simp only at *
    refine ⟨⟨pl + ((d + 1 : Nat) : Int), f.L, f.S⟩ :: gs, by simp, by simp [i2], he, c + m, by exact rs_eq (by first | omega | (simp only []; omega)), ?_⟩
    intro k out hat hb
    have ha := hat ⟨pl + ((d + 1 : Nat) : Int), f.L, f.S⟩ (by simp)
    simp only at ha
    have hL := k2.L
    have hS := k2.S
    have hdl : (pl + ((d + 1 : Nat) : Int) - pl - 1).toNat = d := by omega
    rw [mapR]
    simp only [hdl]
    rw [if_neg (by omega)]
    rcases k2.err (pl + ((d + 1 : Nat) : Int)) with e0 | e7
    · rw [if_neg (fun hh => hh e0)]
      have hlen := k2.len (pl + ((d + 1 : Nat) : Int))
      have hback := fun (t : List UInt8) (s' : RS) (rest : List UInt8) (he' : s'.e = 0) (ht : t.drop s'.p = (frS p ⟨pl + ((d + 1 : Nat) : Int), f.L, f.S⟩ d loc).1 ++ rest) => frS_back (loc := loc) (t := t) (s := s') (rest := rest) hp k2.dd (by omega) (by omega) k2.GS k2.GD k2.GE e0 he' ht
      generalize (frS p ⟨pl + ((d + 1 : Nat) : Int), f.L, f.S⟩ d loc).1 = b0 at *
      rcases i5 (k + 1) (out ++ b0) (fun g hg => hat g (by simp [hg])) (by omega) with h7 | ⟨bs, j1, j2, j3⟩
      · exact .inl h7
      · refine .inr ⟨b0 ++ bs, by rw [j1, List.append_assoc], by rw [List.length_append]; omega, ?_⟩
        intro t s' rest fs' he' ht
        rw [List.append_assoc] at ht
        obtain ⟨q1, q2⟩ := hback t s' _ he' ht
        obtain ⟨q3, q4⟩ := j3 t ⟨s'.p + b0.length, 0, s'.es⟩ rest (fs' ++ [⟨pl + ((d + 1 : Nat) : Int), f.L, f.S⟩]) rfl q2
        refine ⟨?_, by rw [List.length_append, ← Nat.add_assoc]; exact q4⟩
        rw [mapD, if_neg (by simp [he']), q1]
        simp only
        rw [q3]
        simp [Nat.add_assoc]
    · rw [if_pos (by rw [e7]; decide)]
      exact .inl e7
theorem num_p {l : List UInt8} {n : Nat} {s : RS} (h : s.p ≤ l.length) : (numS l n s).2.p ≤ l.length := by
  unfold numS takeS
  split
  · exact h
  · split
    · exact h
    · simp only; omega
theorem fail_p {e q : Nat} {s : RS} : (failS e q s).p = s.p := by unfold failS; split <;> rfl
theorem val_p {p : List Cst} {l : List UInt8} {s : RS} (h : s.p ≤ l.length) : (valD p l s).2.p ≤ l.length := by
  have h1 := num_p (n := 1) h
  have h2 := num_p (n := 2) h1
  unfold valD
  simp only
  split
  · split
    · exact h2
    · simp only [fail_p]; exact h2
  · split
    · exact h2
    · split
      · simp only [fail_p]; exact h1
      · exact h1
theorem vals_p {p : List Cst} {l : List UInt8} : ∀ (n : Nat) (xs : List VT) (s : RS), s.p ≤ l.length → (valsD p l n xs s).2.p ≤ l.length := by
  intro n
  induction n with
  | zero => intro xs s h; exact h
  | succ n ih =>
    intro xs s h
    rw [valsD]
    split
    · exact h
    · exact ih _ _ (val_p h)
theorem frm_p {p : List Cst} {l : List UInt8} {loc : List VT} {s : RS} (h : s.p ≤ l.length) : (frmD p l loc s).2.2.p ≤ l.length := by
  have h1 := num_p (n := 1) h
  have h2 := num_p (n := 2) h1
  have h3 := num_p (n := 2) h2
  unfold frmD
  simp only
  split
  · exact h1
  · split
    · exact vals_p _ _ _ h1
    · split
      · simp only [fail_p]; exact h1
      · split
        · exact vals_p _ _ _ h2
        · split
          · split
            · simp only [fail_p]; exact h2
            · exact h2
          · split
            · exact vals_p _ _ _ h2
            · exact vals_p _ _ _ (num_p (vals_p _ _ _ h3))
theorem map_p {p : List Cst} {l : List UInt8} : ∀ (n : Nat) (pl : Int) (loc : List VT) (fs : List Frm) (s : RS), s.p ≤ l.length → (mapD p l n pl loc fs s).2.p ≤ l.length := by
  intro n
  induction n with
  | zero => intro pl loc fs s h; exact h
  | succ n ih =>
    intro pl loc fs s h
    rw [mapD]
    split
    · exact h
    · exact ih _ _ _ _ (frm_p h)
/-- The plain law. -/
theorem rounds_plain {p : List Cst} {l : List UInt8} {first : List VT} (hp : p.length < 65536) (hb : l.length + first.length ≤ 65535) (h : (mapA p l first).2.1 = 0) (hat : ∀ f ∈ (mapA p l first).1, f.at' ≤ 65535) :
    ((mapS p first (mapA p l first).1).2.1 = 7) ∨ ((mapS p first (mapA p l first).1).2.1 = 0 ∧ (mapS p first (mapA p l first).1).1.length ≤ l.length ∧ mapA p (mapS p first (mapA p l first).1).1 first = ((mapA p l first).1, 0, 0)) := by
  have hn := numS_lt (l := l) (n := 2) (s := ⟨0, 0, 0⟩)
  simp only [Nat.reducePow] at hn
  unfold mapA at h hat ⊢
  generalize hX : mapD p l (numS l 2 ⟨0, 0, 0⟩).1 (-1) first [] (numS l 2 ⟨0, 0, 0⟩).2 = X at *
  obtain ⟨gs0, s9⟩ := X
  have hend : s9.e = 0 ∧ ¬ s9.p < l.length := by
    unfold mapE at h
    simp only at h
    by_cases h9 : s9.p < l.length
    · rw [if_pos h9] at h
      by_cases hz : (failS 2 s9.p s9).e = 0
      · exact (failS_zero (by decide) hz).elim
      · rw [if_pos hz] at h; exact absurd h hz
    · rw [if_neg h9] at h
      by_cases hz : s9.e = 0
      · exact ⟨hz, h9⟩
      · rw [if_pos hz] at h; exact absurd h hz
  have hE : mapE l (gs0, s9) = (gs0, 0, 0) := by
    unfold mapE
    simp only [if_neg hend.2]
    rw [if_neg (by simp [hend.1])]
  rw [hE] at hat ⊢
  simp only at hat ⊢
  have he9 : (mapD p l (numS l 2 ⟨0, 0, 0⟩).1 (-1) first [] (numS l 2 ⟨0, 0, 0⟩).2).2.e = 0 := by rw [hX]; exact hend.1
  obtain ⟨gs, g1, g2, g3, m, g4, g5⟩ := map_back hp _ _ _ _ _ he9
  rw [hX] at g1 g4
  simp only [List.nil_append] at g1 g4
  subst g1
  obtain ⟨_, n2⟩ := numS_ok g3
  have hm : 2 + m ≤ l.length := by
    have : s9.p = 2 + m := by rw [g4, n2]
    have hle : s9.p ≤ l.length := by
      have := map_p (p := p) (l := l) (numS l 2 ⟨0, 0, 0⟩).1 (-1) first [] (numS l 2 ⟨0, 0, 0⟩).2 (num_p (Nat.zero_le _))
      rw [hX] at this; exact this
    omega
  have hmap : mapS p first gs0 = mapR p gs0 (-1) first 0 (bigS gs0.length 2) := by unfold mapS; rw [if_neg (by omega)]
  rw [hmap]
  rcases g5 0 (bigS gs0.length 2) hat (by omega) with h7 | ⟨bs, j1, j2, j3⟩
  · exact .inl h7
  · refine .inr ?_
    rw [j1]
    simp only
    refine ⟨trivial, by rw [List.length_append, bigS_len]; omega, ?_⟩
    obtain ⟨q1, q2⟩ := numS_at (t := bigS gs0.length 2 ++ bs) (s := ⟨0, 0, 0⟩) (x := gs0.length) (n := 2) (rest := bs) rfl (by decide) rfl (by simp only [Nat.reducePow]; omega)
    obtain ⟨q3, q4⟩ := j3 (bigS gs0.length 2 ++ bs) ⟨2, 0, 0⟩ [] [] rfl (by rw [List.append_nil]; exact q2)
    have q1' : numS (bigS gs0.length 2 ++ bs) 2 ⟨0, 0, 0⟩ = (gs0.length, ⟨2, 0, 0⟩) := q1
    rw [q1']
    simp only
    rw [← g2] at q3
    rw [q3]
    unfold mapE
    simp only [List.length_append, bigS_len, List.nil_append]
    rw [if_neg (show ¬ 2 + bs.length < 2 + bs.length by omega)]
    simp
end Go.Proofs.Ytohkbpnblkkdgaa

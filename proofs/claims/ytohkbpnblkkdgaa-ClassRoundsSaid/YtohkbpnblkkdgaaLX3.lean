/- What is read of a class file, and what lies ahead of a reader (plain): numbers, attributes. What is read of a class file is written, and read again (plain): fields, handlers, code, methods. A class file that is read is written, and read again as it was (plain). -/
import Derived.Test.YtohkbpnblkkdgaaLQ
import Derived.Test.YtohkbpnblkkdgaaLO
import Derived.Test.YtohkbpnblkkdgaaLV
import Derived.Test.YtohkbpnblkkdgaaR8
namespace Go.Proofs.Ytohkbpnblkkdgaa
open Go.Vc
set_option maxRecDepth 100000
set_option linter.unusedSimpArgs false
set_option linter.unusedVariables false

def nx (s : RS) (n : Nat) : RS := ⟨s.p + n, 0, s.es⟩
/-- What lies ahead. -/
structure At (t : List UInt8) (s : RS) (r : List UInt8) : Prop where
  e : s.e = 0
  p : s.p ≤ t.length
  d : t.drop s.p = r
theorem numB_bigS (x : Nat) : ∀ n, numB (bigS x n) = x % 256 ^ n := by
  have join : ∀ (b : List UInt8) (y : Nat), b.foldl (fun x b => x * 256 + b.toNat) y = y * 256 ^ b.length + numB b := by
    intro b
    induction b with
    | nil => intro y; simp [numB]
    | cons c r ih =>
      intro y
      have h1 : numB (c :: r) = c.toNat * 256 ^ r.length + numB r := by
        show r.foldl _ (0 * 256 + c.toNat) = _
        rw [ih]; simp
      rw [List.foldl_cons, ih, h1, List.length_cons, Nat.pow_succ, Nat.add_mul, Nat.mul_assoc, Nat.mul_comm 256]
      omega
  intro n
  induction n with
  | zero => simp [bigS, numB, Nat.mod_one]
  | succ n ih =>
    rw [bigS_succ]
    show (bigS x n).foldl _ (0 * 256 + (UInt8.ofNat (x / 256 ^ n % 256)).toNat) = _
    have h8 : (UInt8.ofNat (x / 256 ^ n % 256)).toNat = x / 256 ^ n % 256 := by rw [UInt8.toNat_ofNat']; omega
    rw [join, ih, bigS_len, h8, Nat.pow_succ, Nat.mod_mul, Nat.zero_mul, Nat.zero_add, Nat.mul_comm]
    omega
section
variable {l t : List UInt8} {s : RS} {n : Nat} {p : List Cst}
theorem num_ok (h : (numS l n s).2.e = 0) : s.e = 0 ∧ (numS l n s).2 = nx s n := by
  unfold numS takeS at h ⊢
  by_cases he : s.e = 0
  · refine ⟨he, ?_⟩
    rw [if_neg (by simp [he])] at h ⊢
    by_cases hl : l.length < s.p + n
    · rw [if_pos hl] at h; cases h
    · rw [if_neg hl]; rfl
  · rw [if_pos he] at h; exact absurd h he
theorem take_ok (h : (takeS l n s).2.e = 0) : s.e = 0 ∧ (takeS l n s).2 = nx s n ∧ (takeS l n s).1.length = n := by
  unfold takeS at h ⊢
  by_cases he : s.e = 0
  · refine ⟨he, ?_⟩
    rw [if_neg (by simp [he])] at h ⊢
    by_cases hl : l.length < s.p + n
    · rw [if_pos hl] at h; cases h
    · rw [if_neg hl]; exact ⟨rfl, by simp; omega⟩
  · rw [if_pos he] at h; exact absurd h he
theorem fail_ne {e q : Nat} (he : e ≠ 0) (h : (failS e q s).e = 0) : False := failS_ne he h
theorem nx_nx {a b : Nat} : nx (nx s a) b = nx s (a + b) := by simp [nx, Nat.add_assoc]
theorem At.take {w rest : List UInt8} (H : At t s (w ++ rest)) : takeS t w.length s = (w, nx s w.length) := by
  have hl : (t.drop s.p).length = w.length + rest.length := by rw [H.d, List.length_append]
  rw [List.length_drop] at hl
  have hp := H.p
  unfold takeS
  rw [if_neg (by simp [H.e]), if_neg (by omega), H.d, List.take_left' rfl]; rfl
theorem At.next {w rest : List UInt8} (H : At t s (w ++ rest)) : At t (nx s w.length) rest := by
  have hl : (t.drop s.p).length = w.length + rest.length := by rw [H.d, List.length_append]
  rw [List.length_drop] at hl
  have hp := H.p
  refine ⟨rfl, by simp only [nx]; omega, ?_⟩
  simp only [nx]
  rw [← List.drop_drop, H.d, List.drop_left' rfl]
theorem At.num {x : Nat} {rest : List UInt8} (H : At t s (bigS x n ++ rest)) (hx : x < 256 ^ n) : numS t n s = (x, nx s n) := by
  have h := H.take
  rw [bigS_len] at h
  unfold numS
  rw [h, numB_bigS, Nat.mod_eq_of_lt hx]
theorem At.nextN {x : Nat} {rest : List UInt8} (H : At t s (bigS x n ++ rest)) : At t (nx s n) rest := by
  have h := H.next
  rwa [bigS_len] at h
theorem attB_ok (h : (attB p l s).2.e = 0) : s.e = 0 ∧ isS p (numS l 2 s).1 1 = true ∧ (attB p l s).2 = nx s 6 ∧ (attB p l s).1 < 4294967296 := by
  have hlt : (attB p l s).1 < 4294967296 := by
    have := @numS_lt l 4 (if isS p (numS l 2 s).1 1 = true then (numS l 2 s).2 else failS 7 s.p (numS l 2 s).2)
    simpa [attB] using this
  unfold attB at h
  obtain ⟨h1, h2⟩ := num_ok h
  by_cases hi : isS p (numS l 2 s).1 1 = true
  · rw [if_pos hi] at h1 h2
    obtain ⟨h3, h4⟩ := num_ok h1
    refine ⟨h3, hi, ?_, hlt⟩
    unfold attB
    rw [if_pos hi, h2, h4, nx_nx]
  · rw [if_neg hi] at h1
    exact (fail_ne (by decide) h1).elim
/-- What the attributes that count come to, where nothing is wrong. -/
theorem attrs_ok {σ : Type} {take : Take σ} (G : σ → Prop) (W : σ → Nat)
    (hstep : ∀ ix q n x s y, isS p ix 1 = true → s.e = 0 → n < 4294967296 → take (strS p ix) q n x s = some y → y.2.e = 0 → y.2.p = s.p + n → G x → G y.1 ∧ W y.1 + s.p ≤ W x + 6 + y.2.p) :
    ∀ (k : Nat) (x : σ) (s : RS), (attrsR p l take k x s).2.e = 0 → G x → s.e = 0 ∧ G (attrsR p l take k x s).1 ∧ s.p + W (attrsR p l take k x s).1 ≤ W x + (attrsR p l take k x s).2.p := by
  intro k
  induction k with
  | zero => intro x s h hG; exact ⟨h, hG, by show s.p + W x ≤ W x + s.p; omega⟩
  | succ k ih =>
    intro x s h hG
    by_cases he : s.e = 0
    · refine ⟨he, ?_⟩
      rw [attrsR_step he] at h ⊢
      by_cases hb : (attB p l s).2.e = 0
      · rw [if_neg (by simp [hb])] at h ⊢
        obtain ⟨_, hi, hb2, hn⟩ := attB_ok hb
        have hbp : (attB p l s).2.p = s.p + 6 := by rw [hb2]; rfl
        cases hT : take (strS p (numS l 2 s).1) s.p (attB p l s).1 x (attB p l s).2 with
        | none =>
          rw [hT] at h
          simp only at h ⊢
          obtain ⟨h1, h2, h3⟩ := ih _ _ h hG
          obtain ⟨_, h4, _⟩ := take_ok h1
          have h5 : (takeS l (attB p l s).1 (attB p l s).2).2.p = s.p + 6 + (attB p l s).1 := by rw [h4]; simp only [nx]; omega
          exact ⟨h2, by omega⟩
        | some y =>
          rw [hT] at h
          simp only at h ⊢
          by_cases hp : y.2.p = (attB p l s).2.p + (attB p l s).1
          · rw [if_pos hp] at h ⊢
            have hy : y.2.e = 0 := by
              by_cases hye : y.2.e = 0
              · exact hye
              · rw [attrsR_bad hye] at h; exact h
            obtain ⟨g1, g2⟩ := hstep _ _ _ _ _ _ hi hb hn hT hy hp hG
            obtain ⟨h1, h2, h3⟩ := ih _ _ h g1
            exact ⟨h2, by omega⟩
          · rw [if_neg hp] at h
            have h1 : (failS 12 s.p y.2).e ≠ 0 := failS_ne (by decide)
            rw [attrsR_bad h1] at h
            exact absurd h h1
      · rw [if_pos hb] at h; exact absurd h hb
    · rw [attrsR_bad he] at h; exact absurd h he
/-- One attribute ahead. -/
theorem attrs_one {σ : Type} {take : Take σ} {ix m : Nat} {x y : σ} {r : List UInt8} (H : At t s (bigS ix 2 ++ (bigS m 4 ++ r))) (hix : ix < 65536) (hm : m < 4294967296) (hi : isS p ix 1 = true)
    (hT : take (strS p ix) s.p m x (nx s 6) = some (y, nx s (6 + m))) : attrsR p t take 1 x s = (y, nx s (6 + m)) := by
  have h1 := H.num (by simpa using hix)
  have h2 := H.nextN.num (n := 4) (by simpa using hm)
  have hb : attB p t s = (m, nx s 6) := by
    unfold attB
    rw [h1]
    simp only [if_pos hi]
    rw [h2, nx_nx]
  rw [attrsR_step H.e, hb, h1]
  simp only [hT]
  rw [if_neg (by simp [nx]), if_pos (by simp [nx]; omega)]
  rfl
/-- A name that is there is found. -/
theorem nameK_have {ix : Nat} {name : List UInt8} (hi : isS p ix 1 = true) (hn : strS p ix = name) : (nameK p name).isSome = true := by
  unfold isS at hi
  simp only [Bool.and_eq_true, decide_eq_true_eq] at hi
  have hs : (p.getD ix Cst.zero).text = name := by
    have hi' : isS p ix 1 = true := by unfold isS; simp only [hi.1, hi.2.1, hi.2.2, decide_true, Bool.and_self]
    rw [← hn]; unfold strS
    rw [if_pos hi']
  unfold nameK
  rw [List.findIdx?_isSome, List.any_eq_true]
  refine ⟨p.getD ix Cst.zero, ?_, ?_⟩
  · have : p.getD ix Cst.zero = p[ix]'hi.1 := by simp [hi.1]
    rw [this]; exact List.getElem_mem _
  · unfold hitN; rw [hi.2.2, hs]; simp
theorem nameK_is {name : List UInt8} {k : Nat} (h0 : (p.getD 0 Cst.zero).tag = 0) (hk : nameK p name = some k) : isS p k 1 = true ∧ strS p k = name ∧ k < p.length := by
  unfold nameK at hk
  obtain ⟨h1, h2, _⟩ := List.findIdx?_eq_some_iff_getElem.1 hk
  have hg : p.getD k Cst.zero = p[k] := by simp [h1]
  unfold hitN at h2
  simp only [Bool.and_eq_true, decide_eq_true_eq] at h2
  have hk0 : 0 < k := by
    rcases Nat.eq_zero_or_pos k with h | h
    · subst h
      rw [hg] at h0
      omega
    · exact h
  have hi : isS p k 1 = true := by unfold isS; rw [hg]; simp [h1, hk0, h2.1]
  exact ⟨hi, by unfold strS; rw [if_pos hi, hg]; exact h2.2, h1⟩
end
end Go.Proofs.Ytohkbpnblkkdgaa
namespace Go.Proofs.Ytohkbpnblkkdgaa
open Go.Vc
set_option maxRecDepth 100000
set_option linter.unusedSimpArgs false
set_option linter.unusedVariables false

theorem nx_zero {s : RS} (h : s.e = 0) : nx s 0 = s := by
  obtain ⟨p, e, es⟩ := s
  simp only at h; subst h; rfl
theorem thenE_00 : thenE 0 0 = 0 := rfl
section
variable {l t : List UInt8} {s : RS} {p : List Cst}
theorem num_p {n : Nat} (h : (numS l n s).2.e = 0) : s.e = 0 ∧ (numS l n s).2.p = s.p + n := by
  obtain ⟨h1, h2⟩ := num_ok h
  exact ⟨h1, by rw [h2]; rfl⟩
theorem take_p {n : Nat} (h : (takeS l n s).2.e = 0) : s.e = 0 ∧ (takeS l n s).2.p = s.p + n ∧ (takeS l n s).1.length = n := by
  obtain ⟨h1, h2, h3⟩ := take_ok h
  exact ⟨h1, by rw [h2]; rfl, h3⟩
theorem num16 (l : List UInt8) (s : RS) : (numS l 2 s).1 < 65536 := by have := @numS_lt l 2 s; simpa using this
theorem loopS_ok {α : Type} (f : RS → α × RS) (w : α → Pce) (G : α → Prop) (hf : ∀ s, (f s).2.e = 0 → s.e = 0 ∧ G (f s).1 ∧ s.p + (w (f s).1).1.length ≤ (f s).2.p ∧ (w (f s).1).2 = 0) :
    ∀ (k : Nat) (xs : List α) (s : RS), (loopS f k xs s).2.e = 0 → s.e = 0 ∧ ∃ ys, (loopS f k xs s).1 = xs ++ ys ∧ ys.length = k ∧ (∀ y ∈ ys, G y) ∧ s.p + (allP w ys).1.length ≤ (loopS f k xs s).2.p ∧ (allP w ys).2 = 0 := by
  intro k
  induction k with
  | zero => intro xs s h; exact ⟨h, [], by simp [loopS], rfl, (fun y hy => by cases hy), by simp [allP, loopS], rfl⟩
  | succ k ih =>
    intro xs s h
    by_cases he : s.e = 0
    · refine ⟨he, ?_⟩
      have hst : loopS f (k + 1) xs s = loopS f k (xs ++ [(f s).1]) (f s).2 := by rw [loopS, if_neg (by simp [he])]
      rw [hst] at h ⊢
      obtain ⟨h1, ys, h2, h3, h4, h5, h6⟩ := ih _ _ h
      obtain ⟨_, g1, g2, g3⟩ := hf s h1
      refine ⟨(f s).1 :: ys, by rw [h2]; simp, by simp [h3], ?_, ?_, ?_⟩
      · intro y hy
        rcases List.mem_cons.1 hy with hy | hy
        · rw [hy]; exact g1
        · exact h4 y hy
      · simp only [allP, seqP, List.length_append]; omega
      · simp only [allP, seqP, g3, h6, thenE_00]
    · rw [loopS_bad he] at h; exact absurd h he
theorem loopS_at {α : Type} (f : RS → α × RS) (w : α → Pce) (G : α → Prop) (hf : ∀ x s rest, G x → At t s ((w x).1 ++ rest) → f s = (x, nx s (w x).1.length)) :
    ∀ (ys xs : List α) (s : RS) (rest : List UInt8), (∀ y ∈ ys, G y) → At t s ((allP w ys).1 ++ rest) → loopS f ys.length xs s = (xs ++ ys, nx s (allP w ys).1.length) := by
  intro ys
  induction ys with
  | nil => intro xs s rest _ H; simp only [List.length_nil, loopS, allP, List.append_nil, nx_zero H.e]
  | cons y r ih =>
    intro xs s rest hG H
    simp only [allP, seqP, List.append_assoc] at H
    have h1 := hf y s _ (hG y (by simp)) H
    have h2 := ih (xs ++ [y]) _ rest (fun z hz => hG z (by simp [hz])) H.next
    rw [List.length_cons, loopS, if_neg (by simp [H.e]), h1]
    simp only
    rw [h2, nx_nx]
    simp [allP, seqP]
theorem attrP_some {name : List UInt8} {k : Nat} {b : Pce} (hk : nameK p name = some k) : attrP (nameK p) name b = (bigS k 2 ++ (bigS b.1.length 4 ++ b.1), b.2) := by
  unfold attrP; rw [hk]
/-! ### Fields -/
structure GF (p : List Cst) (f : Fld) : Prop where
  fit : f.Fit
  v : f.value ≠ 0 → (nameK p cvN).isSome = true
theorem fldP_no {f : Fld} (h : f.value = 0) : fldP (nameK p) f = (bigS f.flags 2 ++ (bigS f.name 2 ++ (bigS f.type 2 ++ bigS 0 2)), 0) := by
  unfold fldP; rw [if_pos h]; simp [seqP, allP, idxP, thenE]
theorem fldP_yes {f : Fld} {k : Nat} (h : f.value ≠ 0) (hk : nameK p cvN = some k) : fldP (nameK p) f = (bigS f.flags 2 ++ (bigS f.name 2 ++ (bigS f.type 2 ++ (bigS 1 2 ++ (bigS k 2 ++ (bigS 2 4 ++ bigS f.value 2))))), 0) := by
  unfold fldP; rw [if_neg h, attrP_some hk]; simp [seqP, allP, idxP, thenE, bigS_len]
theorem onceR_ok {b : Bool} {q : Nat} (h : (onceR b q s).e = 0) : b = false ∧ onceR b q s = s := by
  unfold onceR at h ⊢
  cases b with
  | false => exact ⟨rfl, rfl⟩
  | true => rw [if_pos rfl] at h; exact (fail_ne (by decide) h).elim
theorem field_ok (h : (fieldR p l s).2.e = 0) : s.e = 0 ∧ GF p (fieldR p l s).1 ∧ s.p + (fldP (nameK p) (fieldR p l s).1).1.length ≤ (fieldR p l s).2.p ∧ (fldP (nameK p) (fieldR p l s).1).2 = 0 := by
  unfold fieldR at h ⊢
  dsimp only at h ⊢
  obtain ⟨h4, hG, hW⟩ := attrs_ok (p := p) (l := l) (take := fldT l) (fun x : Bool × Nat => x.2 < 65536 ∧ (x.1 = false → x.2 = 0) ∧ (x.2 ≠ 0 → (nameK p cvN).isSome = true)) (fun x => if x.1 = true then 8 else 0) (by
    intro ix q n x s y hi he hn hT hy _ hG
    unfold fldT at hT
    split at hT
    · rename_i hnm
      simp only [Option.some.injEq] at hT
      subst hT
      obtain ⟨x1, x2⟩ := x
      have hy' : (numS l 2 (onceR x1 q s)).2.e = 0 := hy
      obtain ⟨g1, g2⟩ := num_p hy'
      obtain ⟨g3, g4⟩ := onceR_ok g1
      subst g3
      refine ⟨⟨num16 _ _, (fun hh => by cases hh), fun _ => nameK_have hi hnm⟩, ?_⟩
      show (if true = true then 8 else 0) + s.p ≤ (if false = true then 8 else 0) + 6 + (numS l 2 (onceR false q s)).2.p
      rw [if_pos rfl, if_neg (by decide), g2, g4]; omega
    · cases hT) _ _ _ h ⟨by decide, fun _ => rfl, fun hh => absurd rfl hh⟩
  obtain ⟨h3, p4⟩ := num_p h4
  obtain ⟨h2, p3⟩ := num_p h3
  obtain ⟨h1, p2⟩ := num_p h2
  obtain ⟨h0, p1⟩ := num_p h1
  generalize attrsR p l (fldT l) _ _ _ = R at *
  simp only [Bool.false_eq_true, if_false, Nat.zero_add] at hW
  refine ⟨h0, ⟨⟨num16 _ _, num16 _ _, num16 _ _, hG.1⟩, hG.2.2⟩, ?_⟩
  by_cases hv : R.1.2 = 0
  · rw [fldP_no hv]
    simp only [List.length_append, bigS_len]
    exact ⟨by omega, trivial⟩
  · obtain ⟨k, hk⟩ := Option.isSome_iff_exists.1 (hG.2.2 hv)
    have hs : R.1.1 = true := by
      cases hb : R.1.1 with
      | true => rfl
      | false => exact absurd (hG.2.1 hb) hv
    rw [if_pos hs] at hW
    rw [fldP_yes hv hk]
    simp only [List.length_append, bigS_len]
    exact ⟨by omega, trivial⟩
theorem field_at (hp0 : (p.getD 0 Cst.zero).tag = 0) (hpl : p.length ≤ 65536) (f : Fld) (s : RS) (rest : List UInt8) (G : GF p f) (H : At t s ((fldP (nameK p) f).1 ++ rest)) : fieldR p t s = (f, nx s (fldP (nameK p) f).1.length) := by
  have hf := G.fit
  by_cases hv : f.value = 0
  · rw [fldP_no hv] at H ⊢
    simp only [List.append_assoc] at H
    have a1 := H.num (by simpa using hf.flags)
    have a2 := H.nextN.num (by simpa using hf.name)
    have a3 := H.nextN.nextN.num (by simpa using hf.type)
    have a4 := H.nextN.nextN.nextN.num (by decide)
    simp only [nx_nx] at a1 a2 a3 a4
    unfold fieldR
    simp only [a1, a2, a3, a4, attrsR, nx_nx, List.length_append, bigS_len]
    obtain ⟨f1, f2, f3, f4⟩ := f
    simp only at hv; subst hv; rfl
  · obtain ⟨k, hk⟩ := Option.isSome_iff_exists.1 (G.v hv)
    obtain ⟨hi, hs, hkl⟩ := nameK_is hp0 hk
    rw [fldP_yes hv hk] at H ⊢
    simp only [List.append_assoc] at H
    have a1 := H.num (by simpa using hf.flags)
    have a2 := H.nextN.num (by simpa using hf.name)
    have a3 := H.nextN.nextN.num (by simpa using hf.type)
    have a4 := H.nextN.nextN.nextN.num (by decide)
    have H4 := H.nextN.nextN.nextN.nextN
    have a5 := H4.nextN.nextN.num (by simpa using hf.value)
    simp only [nx_nx, Nat.reduceAdd] at a1 a2 a3 a4 a5 H4
    have a6 := attrs_one (take := fldT t) (x := (false, 0)) (y := (true, f.value)) H4 (by omega) (by decide) hi (by
      unfold fldT
      rw [if_pos hs]
      simp only [onceR, Bool.false_eq_true, if_false, nx_nx, Nat.reduceAdd, a5])
    simp only [nx_nx, Nat.reduceAdd] at a6
    unfold fieldR
    simp only [a1, a2, a3, a4, nx_nx, Nat.reduceAdd, a6, List.length_append, bigS_len]
/-! ### Handlers -/
structure GH' (h : Hnd) : Prop where
  f1 : 0 ≤ h.from'
  f2 : h.from' < 65536
  t1 : 0 ≤ h.to
  t2 : h.to < 65536
  g1 : 0 ≤ h.target
  g2 : h.target < 65536
  type : h.type < 65536
theorem atU_16 {x : Int} (h0 : 0 ≤ x) (h1 : x < 65536) : atU x = x.toNat := by
  unfold atU
  rw [wrap_u64 h0 (by omega)]
theorem numP_2 {x : Int} (h0 : 0 ≤ x) (h1 : x < 65536) : numP x 2 = (bigS x.toNat 2, 0) := by
  unfold numP
  rw [atU_16 h0 h1, if_neg (by simp only [Nat.reducePow]; omega)]
theorem hndP_eq {h : Hnd} (G : GH' h) : hndP h = (bigS h.from'.toNat 2 ++ (bigS h.to.toNat 2 ++ (bigS h.target.toNat 2 ++ bigS h.type 2)), 0) := by
  unfold hndP
  rw [numP_2 G.f1 G.f2, numP_2 G.t1 G.t2, numP_2 G.g1 G.g2]
  simp [seqP, idxP, thenE]
theorem hnd_ok (h : (hndR l s).2.e = 0) : s.e = 0 ∧ GH' (hndR l s).1 ∧ s.p + (hndP (hndR l s).1).1.length ≤ (hndR l s).2.p ∧ (hndP (hndR l s).1).2 = 0 := by
  have G : GH' (hndR l s).1 := by
    have n1 := num16 l s
    have n2 := num16 l (numS l 2 s).2
    have n3 := num16 l (numS l 2 (numS l 2 s).2).2
    exact ⟨by simp only [hndR]; omega, by simp only [hndR]; omega, by simp only [hndR]; omega, by simp only [hndR]; omega, by simp only [hndR]; omega, by simp only [hndR]; omega, num16 _ _⟩
  unfold hndR at h
  dsimp only at h
  obtain ⟨h3, p4⟩ := num_p h
  obtain ⟨h2, p3⟩ := num_p h3
  obtain ⟨h1, p2⟩ := num_p h2
  obtain ⟨h0, p1⟩ := num_p h1
  refine ⟨h0, G, ?_⟩
  rw [hndP_eq G]
  simp only [List.length_append, bigS_len]
  refine ⟨?_, trivial⟩
  unfold hndR
  dsimp only
  omega
theorem hnd_at (x : Hnd) (s : RS) (rest : List UInt8) (G : GH' x) (H : At t s ((hndP x).1 ++ rest)) : hndR t s = (x, nx s (hndP x).1.length) := by
  have g1 := G.f1
  have g2 := G.f2
  have g3 := G.t1
  have g4 := G.t2
  have g5 := G.g1
  have g6 := G.g2
  rw [hndP_eq G] at H ⊢
  simp only [List.append_assoc] at H
  have a1 := H.num (by simp only [Nat.reducePow]; omega)
  have a2 := H.nextN.num (by simp only [Nat.reducePow]; omega)
  have a3 := H.nextN.nextN.num (by simp only [Nat.reducePow]; omega)
  have a4 := H.nextN.nextN.nextN.num (by simpa using G.type)
  simp only [nx_nx, Nat.reduceAdd] at a1 a2 a3 a4
  unfold hndR
  simp only [a1, a2, a3, a4, nx_nx, Nat.reduceAdd, List.length_append, bigS_len, Int.toNat_of_nonneg g1, Int.toNat_of_nonneg g3, Int.toNat_of_nonneg g5]
/-! ### Code -/
structure GC (p : List Cst) (c : Cde) : Prop where
  s1 : 0 ≤ c.maxS
  s2 : c.maxS < 65536
  l1 : 0 ≤ c.maxL
  l2 : c.maxL < 65536
  b : c.bytes.length < 4294967296
  n : c.hs.length < 65536
  h : ∀ x ∈ c.hs, GH' x
  m : c.map.length < 4294967296
  v : c.map ≠ [] → (nameK p smN).isSome = true
  e : (allP hndP c.hs).2 = 0
theorem cdeP_no {c : Cde} (G : GC p c) (h : c.map = []) : cdeP (nameK p) c = (bigS c.maxS.toNat 2 ++ (bigS c.maxL.toNat 2 ++ (bigS c.bytes.length 4 ++ (c.bytes ++ (bigS c.hs.length 2 ++ ((allP hndP c.hs).1 ++ bigS 0 2))))), 0) := by
  have hn := G.n
  unfold cdeP; rw [if_pos h, numP_2 G.s1 G.s2, numP_2 G.l1 G.l2, numP_2 (by omega) (by omega)]; simp [seqP, thenE, G.e]
theorem cdeP_yes {c : Cde} {k : Nat} (G : GC p c) (h : c.map ≠ []) (hk : nameK p smN = some k) : cdeP (nameK p) c = (bigS c.maxS.toNat 2 ++ (bigS c.maxL.toNat 2 ++ (bigS c.bytes.length 4 ++ (c.bytes ++ (bigS c.hs.length 2 ++ ((allP hndP c.hs).1 ++ (bigS 1 2 ++ (bigS k 2 ++ (bigS c.map.length 4 ++ c.map)))))))), 0) := by
  have hn := G.n
  unfold cdeP; rw [if_neg h, attrP_some hk, numP_2 G.s1 G.s2, numP_2 G.l1 G.l2, numP_2 (by omega) (by omega)]; simp [seqP, thenE, G.e]
theorem code_ok (h : (codeR p l s).2.e = 0) : s.e = 0 ∧ GC p (codeR p l s).1 ∧ s.p + (cdeP (nameK p) (codeR p l s).1).1.length ≤ (codeR p l s).2.p ∧ (cdeP (nameK p) (codeR p l s).1).2 = 0 := by
  unfold codeR at h ⊢
  dsimp only at h ⊢
  obtain ⟨h7, hG, hW⟩ := attrs_ok (p := p) (l := l) (take := smT l) (fun x : Bool × List UInt8 => x.2.length < 4294967296 ∧ (x.1 = false → x.2 = []) ∧ (x.2 ≠ [] → (nameK p smN).isSome = true)) (fun x => if x.1 = true then 6 + x.2.length else 0) (by
    intro ix q n x s y hi he hn hT hy _ hG
    unfold smT at hT
    split at hT
    · rename_i hnm
      simp only [Option.some.injEq] at hT
      subst hT
      obtain ⟨x1, x2⟩ := x
      have hy' : (takeS l n (onceR x1 q s)).2.e = 0 := hy
      obtain ⟨g1, g2, g5⟩ := take_p hy'
      obtain ⟨g3, g4⟩ := onceR_ok g1
      subst g3
      refine ⟨⟨?_, (fun hh => by cases hh), fun _ => nameK_have hi hnm⟩, ?_⟩
      · show (takeS l n (onceR false q s)).1.length < 4294967296
        rw [g5]; exact hn
      show (if true = true then 6 + (takeS l n (onceR false q s)).1.length else 0) + s.p ≤ (if false = true then 6 + x2.length else 0) + 6 + (takeS l n (onceR false q s)).2.p
      rw [if_pos rfl, if_neg (by decide), g5, g2, g4]; omega
    · cases hT) _ _ _ h ⟨by decide, fun _ => rfl, fun hh => absurd rfl hh⟩
  obtain ⟨h6, p7⟩ := num_p h7
  obtain ⟨h5, ys, hy1, hy2, hy3, hy4, hy5⟩ := loopS_ok (hndR l) hndP GH' (fun s h => hnd_ok h) _ _ _ h6
  obtain ⟨h4, p5⟩ := num_p h5
  obtain ⟨h3, p4, p4'⟩ := take_p h4
  obtain ⟨h2, p3⟩ := num_p h3
  obtain ⟨h1, p2⟩ := num_p h2
  obtain ⟨h0, p1⟩ := num_p h1
  rw [List.nil_append] at hy1
  have n1 := num16 l s
  have n2 := num16 l (numS l 2 s).2
  have n3 := @numS_lt l 4 (numS l 2 (numS l 2 s).2).2
  simp only [Nat.reducePow] at n3
  have n4 := num16 l (takeS l (numS l 4 (numS l 2 (numS l 2 s).2).2).1 (numS l 4 (numS l 2 (numS l 2 s).2).2).2).2
  generalize attrsR p l (smT l) _ _ _ = R at *
  simp only [Bool.false_eq_true, if_false, Nat.zero_add] at hW
  generalize loopS (hndR l) _ _ _ = L at *
  generalize takeS l (numS l 4 (numS l 2 (numS l 2 s).2).2).1 (numS l 4 (numS l 2 (numS l 2 s).2).2).2 = M at *
  obtain ⟨c, hc⟩ : ∃ c : Cde, c = ⟨((numS l 2 s).1 : Int), ((numS l 2 (numS l 2 s).2).1 : Int), M.1, L.1, R.1.2⟩ := ⟨_, rfl⟩
  rw [← hc]
  have c1 : c.maxS = ((numS l 2 s).1 : Int) := by rw [hc]
  have c2 : c.maxL = ((numS l 2 (numS l 2 s).2).1 : Int) := by rw [hc]
  have c3 : c.bytes = M.1 := by rw [hc]
  have c4 : c.hs = ys := by rw [hc, hy1]
  have c5 : c.map = R.1.2 := by rw [hc]
  have G : GC p c := ⟨by omega, by omega, by omega, by omega, by rw [c3]; omega, by rw [c4]; omega, by rw [c4]; exact hy3, by rw [c5]; exact hG.1, by rw [c5]; exact hG.2.2, by rw [c4]; exact hy5⟩
  refine ⟨h0, G, ?_⟩
  by_cases hv : c.map = []
  · rw [cdeP_no G hv]
    simp only [List.length_append, bigS_len, c3, c4]
    exact ⟨by omega, trivial⟩
  · obtain ⟨k, hk⟩ := Option.isSome_iff_exists.1 (G.v hv)
    have hs : R.1.1 = true := by
      cases hb : R.1.1 with
      | true => rfl
      | false => exact absurd (c5.trans (hG.2.1 hb)) hv
    rw [if_pos hs] at hW
    rw [cdeP_yes G hv hk]
    simp only [List.length_append, bigS_len, c3, c4, c5]
    exact ⟨by omega, trivial⟩
theorem code_at (hp0 : (p.getD 0 Cst.zero).tag = 0) (hpl : p.length ≤ 65536) (c : Cde) (s : RS) (rest : List UInt8) (G : GC p c) (H : At t s ((cdeP (nameK p) c).1 ++ rest)) : codeR p t s = (c, nx s (cdeP (nameK p) c).1.length) := by
  have g1 := G.s1
  have g2 := G.s2
  have g3 := G.l1
  have g4 := G.l2
  have g5 := G.b
  have g6 := G.n
  have g7 := G.m
  by_cases hv : c.map = []
  · rw [cdeP_no G hv] at H ⊢
    simp only [List.append_assoc] at H
    have a1 := H.num (by simp only [Nat.reducePow]; omega)
    have H2 := H.nextN
    have a2 := H2.num (by simp only [Nat.reducePow]; omega)
    have H3 := H2.nextN
    have a3 := H3.num (by simp only [Nat.reducePow]; omega)
    have H4 := H3.nextN
    have a4 := H4.take
    have H5 := H4.next
    have a5 := H5.num (by simp only [Nat.reducePow]; omega)
    have H6 := H5.nextN
    have a6 := loopS_at (hndR t) hndP GH' hnd_at c.hs [] _ _ G.h H6
    have H7 := H6.next
    have a7 := H7.num (by decide)
    unfold codeR
    simp only [a1, a2, a3, a4, a5, a6, a7, attrsR, Int.toNat_of_nonneg g1, Int.toNat_of_nonneg g3, List.nil_append]
    simp only [nx_nx, List.length_append, bigS_len]
    obtain ⟨f1, f2, f3, f4, f5⟩ := c
    simp only at hv; subst hv
    simp only [Prod.mk.injEq, true_and]
    congr 1; omega
  · obtain ⟨k, hk⟩ := Option.isSome_iff_exists.1 (G.v hv)
    obtain ⟨hi, hs, hkl⟩ := nameK_is hp0 hk
    rw [cdeP_yes G hv hk] at H ⊢
    simp only [List.append_assoc] at H
    have a1 := H.num (by simp only [Nat.reducePow]; omega)
    have H2 := H.nextN
    have a2 := H2.num (by simp only [Nat.reducePow]; omega)
    have H3 := H2.nextN
    have a3 := H3.num (by simp only [Nat.reducePow]; omega)
    have H4 := H3.nextN
    have a4 := H4.take
    have H5 := H4.next
    have a5 := H5.num (by simp only [Nat.reducePow]; omega)
    have H6 := H5.nextN
    have a6 := loopS_at (hndR t) hndP GH' hnd_at c.hs [] _ _ G.h H6
    have H7 := H6.next
    have a7 := H7.num (by decide)
    have H8 := H7.nextN
    have a9 := H8.nextN.nextN.take
    rw [nx_nx] at a9
    have a8 := attrs_one (take := smT t) (x := (false, [])) (y := (true, c.map)) H8 (by omega) (by omega) hi (by
      unfold smT
      rw [if_pos hs]
      simp only [onceR, Bool.false_eq_true, if_false, Nat.reduceAdd] at a9 ⊢
      rw [a9, nx_nx])
    unfold codeR
    simp only [a1, a2, a3, a4, a5, a6, a7, a8, Int.toNat_of_nonneg g1, Int.toNat_of_nonneg g3, List.nil_append]
    simp only [nx_nx, List.length_append, bigS_len, Prod.mk.injEq, true_and]
    congr 1; omega
/-! ### Methods -/
structure GM (p : List Cst) (m : Mth) : Prop where
  flags : m.flags < 65536
  name : m.name < 65536
  type : m.type < 65536
  no : m.has = false → m.code = cde0
  code : GC p m.code
  ln : (cdeP (nameK p) m.code).1.length < 4294967296
  e : (cdeP (nameK p) m.code).2 = 0
  v : m.has = true → (nameK p cdN).isSome = true
theorem mthP_no {m : Mth} (h : m.has = false) : mthP (nameK p) m = (bigS m.flags 2 ++ (bigS m.name 2 ++ (bigS m.type 2 ++ bigS 0 2)), 0) := by
  unfold mthP; rw [if_neg (by simp [h])]; simp [seqP, allP, idxP, thenE]
theorem mthP_yes {m : Mth} {k : Nat} (h : m.has = true) (hk : nameK p cdN = some k) (he : (cdeP (nameK p) m.code).2 = 0) : mthP (nameK p) m = (bigS m.flags 2 ++ (bigS m.name 2 ++ (bigS m.type 2 ++ (bigS 1 2 ++ (bigS k 2 ++ (bigS (cdeP (nameK p) m.code).1.length 4 ++ (cdeP (nameK p) m.code).1))))), 0) := by
  unfold mthP; rw [if_pos h, attrP_some hk]; simp [seqP, allP, idxP, thenE, he]
theorem cde0_GC : GC p cde0 := ⟨by decide, by decide, by decide, by decide, by decide, by decide, (fun x hx => by cases hx), by decide, fun h => absurd rfl h, rfl⟩
theorem cde0_len : (cdeP (nameK p) cde0).1.length = 12 ∧ (cdeP (nameK p) cde0).2 = 0 := by
  rw [cdeP_no cde0_GC rfl]
  exact ⟨by simp [bigS_len, cde0, allP], rfl⟩
theorem method_ok (h : (methodR p l s).2.e = 0) : s.e = 0 ∧ GM p (methodR p l s).1 ∧ s.p + (mthP (nameK p) (methodR p l s).1).1.length ≤ (methodR p l s).2.p ∧ (mthP (nameK p) (methodR p l s).1).2 = 0 := by
  unfold methodR at h ⊢
  dsimp only at h ⊢
  have c0 := @cde0_len p
  obtain ⟨h4, hG, hW⟩ := attrs_ok (p := p) (l := l) (take := cdT p l) (fun x : Bool × Cde => (x.1 = false → x.2 = cde0) ∧ GC p x.2 ∧ (cdeP (nameK p) x.2).1.length < 4294967296 ∧ (cdeP (nameK p) x.2).2 = 0 ∧ (x.1 = true → (nameK p cdN).isSome = true)) (fun x => if x.1 = true then 6 + (cdeP (nameK p) x.2).1.length else 0) (by
    intro ix q n x s y hi he hn hT hy hyp hG
    unfold cdT at hT
    split at hT
    · rename_i hnm
      simp only [Option.some.injEq] at hT
      subst hT
      obtain ⟨x1, x2⟩ := x
      dsimp only at hy hyp ⊢
      clear hG
      obtain ⟨g1, g2, g5, g6⟩ := code_ok hy
      obtain ⟨g3, g4⟩ := onceR_ok g1
      subst g3
      rw [g4] at g2 g5 g6 hyp ⊢
      rw [if_pos rfl, if_neg (by decide)]
      generalize codeR p l s = v at *
      exact ⟨⟨(fun hh => by cases hh), g2, by omega, g6, fun _ => nameK_have hi hnm⟩, by omega⟩
    · cases hT) _ _ _ h ⟨fun _ => rfl, cde0_GC, by rw [c0.1]; decide, c0.2, (fun hh => by cases hh)⟩
  obtain ⟨h3, p4⟩ := num_p h4
  obtain ⟨h2, p3⟩ := num_p h3
  obtain ⟨h1, p2⟩ := num_p h2
  obtain ⟨h0, p1⟩ := num_p h1
  have n1 := num16 l s
  have n2 := num16 l (numS l 2 s).2
  have n3 := num16 l (numS l 2 (numS l 2 s).2).2
  generalize attrsR p l (cdT p l) _ _ _ = R at *
  simp only [Bool.false_eq_true, if_false, Nat.zero_add] at hW
  obtain ⟨m, hm⟩ : ∃ m : Mth, m = ⟨(numS l 2 s).1, (numS l 2 (numS l 2 s).2).1, (numS l 2 (numS l 2 (numS l 2 s).2).2).1, R.1.1, R.1.2⟩ := ⟨_, rfl⟩
  rw [← hm]
  have G : GM p m := by rw [hm]; exact ⟨n1, n2, n3, hG.1, hG.2.1, hG.2.2.1, hG.2.2.2.1, hG.2.2.2.2⟩
  have c4 : m.has = R.1.1 := by rw [hm]
  have c5 : m.code = R.1.2 := by rw [hm]
  refine ⟨h0, G, ?_⟩
  by_cases hv : m.has = false
  · rw [mthP_no hv]
    simp only [List.length_append, bigS_len]
    exact ⟨by omega, trivial⟩
  · have hv : m.has = true := by simpa using hv
    obtain ⟨k, hk⟩ := Option.isSome_iff_exists.1 (G.v hv)
    rw [if_pos (c4 ▸ hv)] at hW
    rw [mthP_yes hv hk G.e]
    simp only [List.length_append, bigS_len, c5]
    exact ⟨by omega, trivial⟩
theorem method_at (hp0 : (p.getD 0 Cst.zero).tag = 0) (hpl : p.length ≤ 65536) (m : Mth) (s : RS) (rest : List UInt8) (G : GM p m) (H : At t s ((mthP (nameK p) m).1 ++ rest)) : methodR p t s = (m, nx s (mthP (nameK p) m).1.length) := by
  by_cases hv : m.has = false
  · rw [mthP_no hv] at H ⊢
    simp only [List.append_assoc] at H
    have a1 := H.num (by simpa using G.flags)
    have a2 := H.nextN.num (by simpa using G.name)
    have a3 := H.nextN.nextN.num (by simpa using G.type)
    have a4 := H.nextN.nextN.nextN.num (by decide)
    simp only [nx_nx] at a1 a2 a3 a4
    have hc := G.no hv
    unfold methodR
    simp only [a1, a2, a3, a4, attrsR, nx_nx, List.length_append, bigS_len]
    obtain ⟨f1, f2, f3, f4, f5⟩ := m
    simp only at hv hc; subst hv; subst hc; rfl
  · have hv : m.has = true := by simpa using hv
    obtain ⟨k, hk⟩ := Option.isSome_iff_exists.1 (G.v hv)
    obtain ⟨hi, hs, hkl⟩ := nameK_is hp0 hk
    have hln := G.ln
    rw [mthP_yes hv hk G.e] at H ⊢
    simp only [List.append_assoc] at H
    have a1 := H.num (by simpa using G.flags)
    have a2 := H.nextN.num (by simpa using G.name)
    have a3 := H.nextN.nextN.num (by simpa using G.type)
    have a4 := H.nextN.nextN.nextN.num (by decide)
    have H4 := H.nextN.nextN.nextN.nextN
    have a5 := code_at hp0 hpl m.code _ rest G.code H4.nextN.nextN
    simp only [nx_nx, Nat.reduceAdd] at a1 a2 a3 a4 a5 H4
    have a6 := attrs_one (take := cdT p t) (x := (false, cde0)) (y := (true, m.code)) H4 (by omega) hln hi (by
      unfold cdT
      rw [if_pos hs]
      simp only [onceR, Bool.false_eq_true, if_false, nx_nx, Nat.reduceAdd, a5]
      rw [← Nat.add_assoc])
    unfold methodR
    simp only [a1, a2, a3, a4, nx_nx, Nat.reduceAdd, a6, List.length_append, bigS_len]
    obtain ⟨f1, f2, f3, f4, f5⟩ := m
    simp only at hv; subst hv
    simp only [Prod.mk.injEq, true_and, nx_nx]
    congr 1; omega
end
end Go.Proofs.Ytohkbpnblkkdgaa
namespace Go.Proofs.Ytohkbpnblkkdgaa
open Go.Vc
set_option maxRecDepth 100000
set_option linter.unusedSimpArgs false
set_option linter.unusedVariables false

section
variable {l t : List UInt8} {s : RS} {p : List Cst}
/-! ### A reader stays within its bytes -/
theorem in_take {n : Nat} (h : s.p ≤ l.length) : (takeS l n s).2.p ≤ l.length := by
  unfold takeS
  split
  · exact h
  · split
    · exact h
    · simp only; omega
theorem in_num {n : Nat} (h : s.p ≤ l.length) : (numS l n s).2.p ≤ l.length := in_take h
theorem in_fail {e q : Nat} : (failS e q s).p = s.p := by unfold failS; split <;> rfl
theorem in_once {b : Bool} {q : Nat} : (onceR b q s).p = s.p := by unfold onceR; split <;> first | exact in_fail | rfl
theorem in_attB (h : s.p ≤ l.length) : (attB p l s).2.p ≤ l.length := by
  unfold attB
  split
  · exact in_num (in_num h)
  · exact in_num (by rw [in_fail]; exact in_num h)
theorem in_attrs {σ : Type} {take : Take σ} (ht : ∀ name q n x s y, s.p ≤ l.length → take name q n x s = some y → y.2.p ≤ l.length) : ∀ (k : Nat) (x : σ) (s : RS), s.p ≤ l.length → (attrsR p l take k x s).2.p ≤ l.length := by
  intro k
  induction k with
  | zero => intro x s h; exact h
  | succ k ih =>
    intro x s h
    by_cases he : s.e = 0
    · rw [attrsR_step he]
      split
      · exact in_attB h
      · split
        · exact ih _ _ (in_take (in_attB h))
        · next y hy =>
          have h1 := ht _ _ _ _ _ _ (in_attB h) hy
          refine ih _ _ ?_
          split
          · exact h1
          · rw [in_fail]; exact h1
    · rw [attrsR_bad he]; exact h
theorem in_loop {α : Type} {f : RS → α × RS} (hf : ∀ s, s.p ≤ l.length → (f s).2.p ≤ l.length) : ∀ (k : Nat) (xs : List α) (s : RS), s.p ≤ l.length → (loopS f k xs s).2.p ≤ l.length := by
  intro k
  induction k with
  | zero => intro xs s h; exact h
  | succ k ih =>
    intro xs s h
    rw [loopS]; split
    · exact h
    · exact ih _ _ (hf _ h)
theorem in_field (h : s.p ≤ l.length) : (fieldR p l s).2.p ≤ l.length := by
  unfold fieldR
  refine in_attrs (fun name q n x s y hs hT => ?_) _ _ _ (in_num (in_num (in_num (in_num h))))
  unfold fldT at hT
  split at hT
  · simp only [Option.some.injEq] at hT
    subst hT
    exact in_num (by rw [in_once]; exact hs)
  · cases hT
theorem in_code (h : s.p ≤ l.length) : (codeR p l s).2.p ≤ l.length := by
  unfold codeR
  dsimp only
  have h1 := in_num (l := l) (n := 2) h
  generalize numS l 2 s = a at *
  have h2 := in_num (l := l) (n := 2) h1
  generalize numS l 2 a.2 = b at *
  have h3 := in_num (l := l) (n := 4) h2
  generalize numS l 4 b.2 = c at *
  have h4 := in_take (l := l) (n := c.1) h3
  generalize takeS l c.1 c.2 = d at *
  have h5 := in_num (l := l) (n := 2) h4
  generalize numS l 2 d.2 = e at *
  have h6 := in_loop (l := l) (f := hndR l) (fun s hs => in_num (in_num (in_num (in_num hs)))) e.1 [] _ h5
  generalize loopS (hndR l) e.1 [] e.2 = f at *
  have h7 := in_num (l := l) (n := 2) h6
  generalize numS l 2 f.2 = g at *
  refine in_attrs (fun name q n x s y hs hT => ?_) _ _ _ h7
  unfold smT at hT
  split at hT
  · simp only [Option.some.injEq] at hT
    subst hT
    dsimp only
    exact in_take (by rw [in_once]; exact hs)
  · cases hT
theorem in_method (h : s.p ≤ l.length) : (methodR p l s).2.p ≤ l.length := by
  unfold methodR
  dsimp only
  have h1 := in_num (l := l) (n := 2) h
  generalize numS l 2 s = a at *
  have h2 := in_num (l := l) (n := 2) h1
  generalize numS l 2 a.2 = b at *
  have h3 := in_num (l := l) (n := 2) h2
  generalize numS l 2 b.2 = c at *
  have h4 := in_num (l := l) (n := 2) h3
  generalize numS l 2 c.2 = d at *
  refine in_attrs (fun name q n x s y hs hT => ?_) _ _ _ h4
  unfold cdT at hT
  split at hT
  · simp only [Option.some.injEq] at hT
    subst hT
    dsimp only
    exact in_code (by rw [in_once]; exact hs)
  · cases hT
theorem preR_p (l : List UInt8) : (preR l).2.2.p ≤ l.length := by
  have h0 := in_num (l := l) (n := 4) (s := ⟨0, 0, 0⟩) (Nat.zero_le _)
  unfold preR
  dsimp only
  generalize numS l 4 ⟨0, 0, 0⟩ = m at *
  have h1 : (if m.1 = 3405691582 then m.2 else failS 3 0 m.2).p ≤ l.length := by
    split
    · exact h0
    · rw [in_fail]; exact h0
  generalize (if m.1 = 3405691582 then m.2 else failS 3 0 m.2) = q at *
  have h2 := in_num (l := l) (n := 2) (in_num (l := l) (n := 2) h1)
  split
  · exact h2
  · rw [in_fail]; exact h2
theorem in_rest {mi ma : Nat} (h : s.p ≤ l.length) : (restR p l mi ma s).2.p ≤ l.length := by
  have h1 : (numS l 2 (numS l 2 (numS l 2 (numS l 2 s).2).2).2).2.p ≤ l.length := in_num (in_num (in_num (in_num h)))
  unfold restR
  dsimp only
  generalize numS l 2 (numS l 2 (numS l 2 (numS l 2 s).2).2).2 = n1 at *
  have h2 := in_num (l := l) (n := 2) (in_loop (f := numS l 2) (fun s hs => in_num hs) n1.1 [] _ h1)
  generalize numS l 2 (loopS (numS l 2) n1.1 [] n1.2).2 = n2 at *
  have h3 := in_num (l := l) (n := 2) (in_loop (f := fieldR p l) (fun s hs => in_field hs) n2.1 [] _ h2)
  generalize numS l 2 (loopS (fieldR p l) n2.1 [] n2.2).2 = n3 at *
  have h4 := in_num (l := l) (n := 2) (in_loop (f := methodR p l) (fun s hs => in_method hs) n3.1 [] _ h3)
  generalize numS l 2 (loopS (methodR p l) n3.1 [] n3.2).2 = n4 at *
  have h5 := in_attrs (p := p) (l := l) (take := noT) (fun name q n x s y hs hT => by cases hT) n4.1 () _ h4
  split
  · rw [in_fail]; exact h5
  · exact h5
/-! ### Behind the pool -/
def restP (K : Look) (c : Cls) : Pce :=
  seqP (allP idxP [c.flags, c.this, c.super]) (seqP (numP c.ifs.length 2) (seqP (allP idxP c.ifs)
    (seqP (numP c.fields.length 2) (seqP (allP (fldP K) c.fields) (seqP (numP c.methods.length 2) (seqP (allP (mthP K) c.methods) (bigS 0 2, 0)))))))
theorem clsP_rest (K : Look) (c : Cls) : clsP K c = seqP (bigS 3405691582 4, 0) (seqP (allP idxP [c.minor, c.major]) (seqP ([], verE c) (seqP ((writeS c.pool).1, (writeS c.pool).2.1) (restP K c)))) := rfl
structure GR (p : List Cst) (c : Cls) : Prop where
  flags : c.flags < 65536
  this : c.this < 65536
  super : c.super < 65536
  il : c.ifs.length < 65536
  fl : c.fields.length < 65536
  ml : c.methods.length < 65536
  ifs : ∀ x ∈ c.ifs, x < 65536
  fields : ∀ x ∈ c.fields, GF p x
  methods : ∀ x ∈ c.methods, GM p x
  ie : (allP idxP c.ifs).2 = 0
  fe : (allP (fldP (nameK p)) c.fields).2 = 0
  me : (allP (mthP (nameK p)) c.methods).2 = 0
theorem restP_eq {c : Cls} (G : GR p c) : restP (nameK p) c = (bigS c.flags 2 ++ (bigS c.this 2 ++ (bigS c.super 2 ++ (bigS c.ifs.length 2 ++ ((allP idxP c.ifs).1 ++ (bigS c.fields.length 2 ++ ((allP (fldP (nameK p)) c.fields).1 ++
    (bigS c.methods.length 2 ++ ((allP (mthP (nameK p)) c.methods).1 ++ bigS 0 2)))))))), 0) := by
  have h1 := G.il
  have h2 := G.fl
  have h3 := G.ml
  unfold restP
  rw [numP_2 (by omega) (by omega), numP_2 (by omega) (by omega), numP_2 (by omega) (by omega)]
  simp [seqP, allP, idxP, thenE, G.ie, G.fe, G.me]
theorem idx_ok (h : (numS l 2 s).2.e = 0) : s.e = 0 ∧ (numS l 2 s).1 < 65536 ∧ s.p + (idxP (numS l 2 s).1).1.length ≤ (numS l 2 s).2.p ∧ (idxP (numS l 2 s).1).2 = 0 := by
  obtain ⟨h1, h2⟩ := num_p h
  exact ⟨h1, num16 l s, by simp only [idxP, bigS_len]; omega, rfl⟩
theorem idx_at (x : Nat) (s : RS) (rest : List UInt8) (G : x < 65536) (H : At t s ((idxP x).1 ++ rest)) : numS t 2 s = (x, nx s (idxP x).1.length) := by
  have h : At t s (bigS x 2 ++ rest) := H
  rw [h.num (by simpa using G)]
  simp [idxP, bigS_len]
theorem rest_ok {mi ma : Nat} (h : (restR p l mi ma s).2.e = 0) : s.e = 0 ∧ GR p (restR p l mi ma s).1 ∧ s.p + (restP (nameK p) (restR p l mi ma s).1).1.length ≤ (restR p l mi ma s).2.p := by
  unfold restR at h ⊢
  dsimp only at h ⊢
  obtain ⟨a, ha⟩ : ∃ x, x = numS l 2 s := ⟨_, rfl⟩
  rw [← ha] at h ⊢
  obtain ⟨b, hb⟩ : ∃ x, x = numS l 2 a.2 := ⟨_, rfl⟩
  rw [← hb] at h ⊢
  obtain ⟨c, hc⟩ : ∃ x, x = numS l 2 b.2 := ⟨_, rfl⟩
  rw [← hc] at h ⊢
  obtain ⟨n1, hn1⟩ : ∃ x, x = numS l 2 c.2 := ⟨_, rfl⟩
  rw [← hn1] at h ⊢
  obtain ⟨i, hi⟩ : ∃ x, x = loopS (numS l 2) n1.1 [] n1.2 := ⟨_, rfl⟩
  rw [← hi] at h ⊢
  obtain ⟨n2, hn2⟩ : ∃ x, x = numS l 2 i.2 := ⟨_, rfl⟩
  rw [← hn2] at h ⊢
  obtain ⟨f, hf⟩ : ∃ x, x = loopS (fieldR p l) n2.1 [] n2.2 := ⟨_, rfl⟩
  rw [← hf] at h ⊢
  obtain ⟨n3, hn3⟩ : ∃ x, x = numS l 2 f.2 := ⟨_, rfl⟩
  rw [← hn3] at h ⊢
  obtain ⟨m, hm⟩ : ∃ x, x = loopS (methodR p l) n3.1 [] n3.2 := ⟨_, rfl⟩
  rw [← hm] at h ⊢
  obtain ⟨n4, hn4⟩ : ∃ x, x = numS l 2 m.2 := ⟨_, rfl⟩
  rw [← hn4] at h ⊢
  obtain ⟨z, hz⟩ : ∃ x, x = attrsR p l noT n4.1 () n4.2 := ⟨_, rfl⟩
  rw [← hz] at h ⊢
  have hz1 : ¬ z.2.p < l.length := fun hh => by rw [if_pos hh] at h; exact fail_ne (by decide) h
  rw [if_neg hz1] at h ⊢
  rw [hz] at h
  obtain ⟨e10, _, p11⟩ := attrs_ok (p := p) (l := l) (take := noT) (fun _ : Unit => True) (fun _ => 0) (fun ix q n x s y _ _ _ hT => by cases hT) _ _ _ h trivial
  rw [← hz] at p11
  rw [hn4] at e10
  obtain ⟨e9, p10⟩ := num_p e10
  rw [← hn4] at p10
  rw [hm] at e9
  obtain ⟨e8, ms, m1, m2, m3, m4, m5⟩ := loopS_ok (methodR p l) (mthP (nameK p)) (GM p) (fun s h => method_ok h) _ _ _ e9
  rw [← hm] at m1 m4
  rw [hn3] at e8
  obtain ⟨e7, p8⟩ := num_p e8
  rw [← hn3] at p8
  rw [hf] at e7
  obtain ⟨e6, fs, f1, f2, f3, f4, f5⟩ := loopS_ok (fieldR p l) (fldP (nameK p)) (GF p) (fun s h => field_ok h) _ _ _ e7
  rw [← hf] at f1 f4
  rw [hn2] at e6
  obtain ⟨e5, p6⟩ := num_p e6
  rw [← hn2] at p6
  rw [hi] at e5
  obtain ⟨e4, is, i1, i2, i3, i4, i5⟩ := loopS_ok (numS l 2) idxP (fun x => x < 65536) (fun s h => idx_ok h) _ _ _ e5
  rw [← hi] at i1 i4
  rw [hn1] at e4
  obtain ⟨e3, p4⟩ := num_p e4
  rw [← hn1] at p4
  rw [hc] at e3
  obtain ⟨e2, p3⟩ := num_p e3
  rw [← hc] at p3
  rw [hb] at e2
  obtain ⟨e1, p2⟩ := num_p e2
  rw [← hb] at p2
  rw [ha] at e1
  obtain ⟨e0, p1⟩ := num_p e1
  rw [← ha] at p1
  rw [List.nil_append] at m1 f1 i1
  have la : a.1 < 65536 := by rw [ha]; exact num16 _ _
  have lb : b.1 < 65536 := by rw [hb]; exact num16 _ _
  have lc : c.1 < 65536 := by rw [hc]; exact num16 _ _
  have ln1 : n1.1 < 65536 := by rw [hn1]; exact num16 _ _
  have ln2 : n2.1 < 65536 := by rw [hn2]; exact num16 _ _
  have ln3 : n3.1 < 65536 := by rw [hn3]; exact num16 _ _
  rw [i1, f1, m1]
  have G : GR p ⟨mi, ma, a.1, b.1, c.1, p, is, fs, ms⟩ := ⟨la, lb, lc, by simp only; omega, by simp only; omega, by simp only; omega, i3, f3, m3, i5, f5, m5⟩
  refine ⟨e0, G, ?_⟩
  rw [restP_eq G]
  simp only [List.length_append, bigS_len]
  omega
theorem rest_at (hp0 : (p.getD 0 Cst.zero).tag = 0) (hpl : p.length ≤ 65536) (c : Cls) (hcp : c.pool = p) (G : GR p c) (H : At t s (restP (nameK p) c).1) : (restR p t c.minor c.major s).1 = c ∧ (restR p t c.minor c.major s).2.e = 0 := by
  rw [restP_eq G] at H
  simp only at H
  have H0 := H
  have a1 := H0.num (by simpa using G.flags)
  have H1 := H0.nextN
  have a2 := H1.num (by simpa using G.this)
  have H2 := H1.nextN
  have a3 := H2.num (by simpa using G.super)
  have H3 := H2.nextN
  have a4 := H3.num (by simpa using G.il)
  have H4 := H3.nextN
  have a5 := loopS_at (numS t 2) idxP (fun x => x < 65536) idx_at c.ifs [] _ _ G.ifs H4
  have H5 := H4.next
  have a6 := H5.num (by simpa using G.fl)
  have H6 := H5.nextN
  have a7 := loopS_at (fieldR p t) (fldP (nameK p)) (GF p) (fun x s rest g h => field_at hp0 hpl x s rest g h) c.fields [] _ _ G.fields H6
  have H7 := H6.next
  have a8 := H7.num (by simpa using G.ml)
  have H8 := H7.nextN
  have a9 := loopS_at (methodR p t) (mthP (nameK p)) (GM p) (fun x s rest g h => method_at hp0 hpl x s rest g h) c.methods [] _ _ G.methods H8
  have H9 := H8.next
  rw [← List.append_nil (bigS 0 2)] at H9
  have a10 := H9.num (by decide)
  have H10 := H9.nextN
  have hd := H10.d
  have hp := H10.p
  have hlen : t.length - (nx (nx (nx (nx (nx (nx (nx (nx (nx (nx s 2) 2) 2) 2) (allP idxP c.ifs).1.length) 2) (allP (fldP (nameK p)) c.fields).1.length) 2) (allP (mthP (nameK p)) c.methods).1.length) 2).p = 0 := by
    have := congrArg List.length hd
    simpa using this
  unfold restR
  simp only [a1, a2, a3, a4, a5, a6, a7, a8, a9, a10, attrsR, List.nil_append]
  rw [if_neg (by omega)]
  refine ⟨?_, rfl⟩
  obtain ⟨c1, c2, c3, c4, c5, c6, c7, c8, c9⟩ := c
  simp only at hcp; subst hcp; rfl
/-! ### The whole file -/
theorem loopR_head (l : List UInt8) (n : Nat) : ∀ (k : Nat) (cs : List Cst) (s : RS), cs ≠ [] → (loopR l n k cs s).1.getD 0 Cst.zero = cs.getD 0 Cst.zero := by
  intro k
  induction k with
  | zero => intro cs s _; rfl
  | succ k ih =>
    intro cs s hne
    have hd : ∀ x : List Cst, (cs ++ x).getD 0 Cst.zero = cs.getD 0 Cst.zero := fun x => by
      cases cs with
      | nil => exact absurd rfl hne
      | cons y r => rfl
    rw [loopR]; split
    · split
      · rw [ih _ _ (by simp), List.append_assoc, hd]
      · rw [ih _ _ (by simp), hd]
    · rfl
theorem poolR_head (l : List UInt8) (s : RS) : ((poolR l s).1.getD 0 Cst.zero).tag = 0 := by
  unfold poolR
  rw [loopR_head _ _ _ _ _ (by simp)]; rfl
theorem pool_e {l : List UInt8} {s : RS} (h : (poolR l s).2.e = 0) : s.e = 0 := by
  by_cases he : s.e = 0
  · exact he
  · rw [poolR_bad he] at h; exact h
theorem pre_ok {l : List UInt8} (h : (preR l).2.2.e = 0) : (preR l).1 = 0 ∧ ((preR l).2.1 = 50 ∨ (preR l).2.1 = 51) ∧ (preR l).2.2 = ⟨8, 0, 0⟩ := by
  unfold preR at h ⊢
  dsimp only at h ⊢
  obtain ⟨m, hm⟩ : ∃ m, m = numS l 4 ⟨0, 0, 0⟩ := ⟨_, rfl⟩
  rw [← hm] at h ⊢
  obtain ⟨a, ha⟩ : ∃ a, a = numS l 2 (if m.1 = 3405691582 then m.2 else failS 3 0 m.2) := ⟨_, rfl⟩
  rw [← ha] at h ⊢
  obtain ⟨b, hb⟩ : ∃ b, b = numS l 2 a.2 := ⟨_, rfl⟩
  rw [← hb] at h ⊢
  by_cases hv : (b.1 = 50 ∨ b.1 = 51) ∧ a.1 = 0
  · rw [if_pos hv] at h ⊢
    rw [hb] at h
    obtain ⟨h1, h2⟩ := num_ok h
    rw [← hb] at h2
    rw [ha] at h1
    obtain ⟨h3, h4⟩ := num_ok h1
    rw [← ha] at h4
    by_cases hg : m.1 = 3405691582
    · rw [if_pos hg] at h3 h4
      rw [hm] at h3
      obtain ⟨_, h6⟩ := num_ok h3
      rw [← hm] at h6
      exact ⟨hv.2, hv.1, by rw [h2, h4, h6]; rfl⟩
    · rw [if_neg hg] at h3
      exact (fail_ne (by decide) h3).elim
  · rw [if_neg hv] at h
    exact (fail_ne (by decide) h).elim
theorem textW_app (a b : List Cst) : textW (a ++ b) = textW a + textW b := by
  induction a with
  | nil => simp [textW]
  | cons x r ih => simp only [List.cons_append, textW, ih]; omega
theorem up_take {n : Nat} (l : List UInt8) (s : RS) : s.p + (takeS l n s).1.length ≤ (takeS l n s).2.p := by
  unfold takeS
  split
  · simp
  · split
    · simp
    · simp; omega
theorem up_num {n : Nat} (l : List UInt8) (s : RS) : s.p ≤ (numS l n s).2.p := by
  have := up_take (n := n) l s
  show s.p ≤ (takeS l n s).2.p
  omega
theorem oneR_text (l : List UInt8) (s : RS) : s.p + (oneR l s).1.text.length ≤ (oneR l s).2.p := by
  have h1 := up_num (n := 1) l s
  unfold oneR
  dsimp only
  generalize numS l 1 s = a at *
  split
  · have h2 := up_num (n := 2) l a.2
    generalize numS l 2 a.2 = b at *
    have h3 := up_take (n := b.1) l b.2
    generalize takeS l b.1 b.2 = c at *
    dsimp only
    split
    · rw [in_fail]; omega
    · omega
  · split
    · have h2 := up_num (n := 4) l a.2
      dsimp only [List.length_nil]; omega
    · split
      · have h2 := up_num (n := 4) l a.2
        have h3 := up_num (n := 4) l (numS l 4 a.2).2
        dsimp only [List.length_nil]; omega
      · split
        · have h2 := up_num (n := 2) l a.2
          dsimp only [List.length_nil]; omega
        · split
          · have h2 := up_num (n := 2) l a.2
            have h3 := up_num (n := 2) l (numS l 2 a.2).2
            dsimp only [List.length_nil]; omega
          · dsimp only [List.length_nil]; rw [in_fail]; omega
theorem loopR_text (l : List UInt8) (n : Nat) : ∀ (k : Nat) (cs : List Cst) (s : RS), textW (loopR l n k cs s).1 + s.p ≤ textW cs + (loopR l n k cs s).2.p := by
  intro k
  induction k with
  | zero => intro cs s; exact Nat.le_refl _
  | succ k ih =>
    intro cs s
    have h1 := oneR_text l s
    rw [loopR]; split
    · split
      · have h2 := ih (cs ++ [(oneR l s).1] ++ [Cst.zero]) (if n < cs.length + 2 then failS 12 s.p (oneR l s).2 else (oneR l s).2)
        have h3 : (if n < cs.length + 2 then failS 12 s.p (oneR l s).2 else (oneR l s).2).p = (oneR l s).2.p := by split <;> first | exact in_fail | rfl
        have h4 : textW [Cst.zero] = 0 := rfl
        have h5 : textW [(oneR l s).1] = (oneR l s).1.text.length := by simp [textW]
        rw [textW_app, textW_app, h4, h5, h3] at h2
        omega
      · have h2 := ih (cs ++ [(oneR l s).1]) (oneR l s).2
        have h5 : textW [(oneR l s).1] = (oneR l s).1.text.length := by simp [textW]
        rw [textW_app, h5] at h2
        omega
    · exact Nat.le_refl _
theorem poolR_text (l : List UInt8) (s : RS) : textW (poolR l s).1 + s.p ≤ (poolR l s).2.p := by
  unfold poolR
  have h1 := up_num (n := 2) l s
  have h2 := loopR_text l (numS l 2 s).1 (numS l 2 s).1 [Cst.zero] (if (numS l 2 s).1 = 0 then failS 12 s.p (numS l 2 s).2 else (numS l 2 s).2)
  have h3 : (if (numS l 2 s).1 = 0 then failS 12 s.p (numS l 2 s).2 else (numS l 2 s).2).p = (numS l 2 s).2.p := by split <;> first | exact in_fail | rfl
  have h4 : textW [Cst.zero] = 0 := rfl
  rw [h3, h4] at h2
  omega
theorem cde_mW {p : List Cst} {c : Cde} (G : GC p c) : c.bytes.length + c.map.length + c.hs.length ≤ (cdeP (nameK p) c).1.length := by
  have h2 := allP_hnd_len c.hs
  by_cases hv : c.map = []
  · rw [cdeP_no G hv]
    simp only [List.length_append, bigS_len, hv, List.length_nil]; omega
  · obtain ⟨k, hk⟩ := Option.isSome_iff_exists.1 (G.v hv)
    rw [cdeP_yes G hv hk]
    simp only [List.length_append, bigS_len]; omega
theorem mth_mW {p : List Cst} {m : Mth} (G : GM p m) : mW m ≤ (mthP (nameK p) m).1.length := by
  have h1 := cde_mW G.code
  unfold mW
  by_cases hv : m.has = false
  · rw [G.no hv]; simp [cde0]
  · have hv : m.has = true := by simpa using hv
    obtain ⟨k, hk⟩ := Option.isSome_iff_exists.1 (G.v hv)
    rw [mthP_yes hv hk G.e]
    simp only [List.length_append, bigS_len]; omega
theorem all_mW {p : List Cst} : ∀ (ms : List Mth), (∀ m ∈ ms, GM p m) → sumW ms ≤ (allP (mthP (nameK p)) ms).1.length := by
  intro ms
  induction ms with
  | nil => intro _; exact Nat.le_refl _
  | cons m r ih =>
    intro h
    have h1 := mth_mW (h m (by simp))
    have h2 := ih (fun x hx => h x (by simp [hx]))
    simp only [sumW, allP, seqP, List.length_append]; omega
/-- What is known of a class that was read. -/
structure Rounds (l : List UInt8) (c : Cls) : Prop where
  eq : readR l = (c, 0, 0)
  g : GR c.pool c
  p : ∀ x ∈ c.pool, x.Fit ∧ x.text.length ≤ 65535
  pl : c.pool.length ≤ 65536
  p0 : (c.pool.getD 0 Cst.zero).tag = 0
  tw : textW c.pool ≤ l.length
  sw : sumW c.methods ≤ l.length
  mi : c.minor = 0
  ma : c.major = 50 ∨ c.major = 51
  w : ∃ t, outP (clsP (nameK c.pool) c) = (t, 0) ∧ readR t = (c, 0, 0) ∧ t.length ≤ l.length
theorem class_rounds {l : List UInt8} (h : (readR l).2.1 = 0) : ∃ c, Rounds l c := by
  unfold readR at h
  dsimp only at h
  obtain ⟨x, hx⟩ : ∃ x, x = preR l := ⟨_, rfl⟩
  rw [← hx] at h
  obtain ⟨P, hP⟩ : ∃ P, P = poolR l x.2.2 := ⟨_, rfl⟩
  rw [← hP] at h
  have htw := poolR_text l x.2.2
  rw [← hP] at htw
  obtain ⟨R, hR⟩ : ∃ R, R = restR P.1 l x.1 x.2.1 P.2 := ⟨_, rfl⟩
  rw [← hR] at h
  have hRe : R.2.e = 0 := by
    unfold finC at h
    by_cases he : R.2.e = 0
    · exact he
    · rw [if_pos he] at h; exact h
  have hread : readR l = (R.1, 0, 0) := by
    unfold readR
    dsimp only
    rw [← hx, ← hP, ← hR]
    unfold finC
    rw [if_neg (by simp [hRe])]
  have hr := hRe
  rw [hR] at hr
  obtain ⟨e1, G, g1⟩ := rest_ok hr
  have hxe : x.2.2.e = 0 := pool_e (l := l) (by rw [← hP]; exact e1)
  have hpre := hxe
  rw [hx] at hpre
  obtain ⟨v1, v2, v3⟩ := pre_ok hpre
  rw [← hx] at v1 v2 v3
  have hok := preR_p l
  rw [← hx, v3] at hok
  simp only at hok
  rw [v3] at hP
  have hs : (⟨8, 0, 0⟩ : RS) = shS 0 8 ⟨0, 0, 0⟩ := rfl
  rw [hs, sh_pool hok] at hP
  obtain ⟨Z, hZ⟩ : ∃ Z, Z = poolR (l.drop 8) ⟨0, 0, 0⟩ := ⟨_, rfl⟩
  have hfin := read_ref (l.drop 8)
  rw [← hZ] at hP hfin
  have hZe : Z.2.e = 0 := by have := e1; rw [hP] at this; exact this
  have hfin' : refRead (l.drop 8) = (Z.1, Z.2.p, 0, 0) := by rw [← hfin]; unfold finR; rw [if_neg (by simp [hZe])]
  have hb := read_back (l.drop 8) (by rw [hfin'])
  rw [hfin'] at hb
  simp only at hb
  obtain ⟨b1, b2, b3, b4⟩ := hb
  have hP1 : P.1 = Z.1 := by rw [hP]
  have hP2 : P.2 = ⟨Z.2.p + 8, 0, 0⟩ := by rw [hP]; simp [shS, hZe]
  have hcl : R.1.pool = P.1 := by rw [hR]; rfl
  have hmi : R.1.minor = 0 := by rw [hR]; exact v1
  have hma : R.1.major = 50 ∨ R.1.major = 51 := by rw [hR]; exact v2
  rw [← hR] at G g1
  have hzl : Z.2.p ≤ l.length - 8 := by simpa using b2
  have hRp : R.2.p ≤ l.length := by rw [hR]; exact in_rest (by rw [hP2]; simp only; omega)
  have hp0 : (P.1.getD 0 Cst.zero).tag = 0 := by rw [hP1, hZ]; exact poolR_head _ _
  have hpl : P.1.length ≤ 65536 := by rw [hP1, hZ]; exact poolR_len _ _
  generalize R.1 = c at *
  refine ⟨c, hread, by rw [hcl]; exact G, by rw [hcl, hP1]; exact b3, by rw [hcl]; exact hpl, by rw [hcl]; exact hp0, by rw [hcl]; rw [hP2] at htw; simp only at htw; omega, ?_, hmi, hma, ?_⟩
  · have h1 := all_mW c.methods G.methods
    have h2 := congrArg (fun x : Pce => x.1.length) (restP_eq G)
    simp only [List.length_append, bigS_len] at h2
    omega
  have hve : verE c = 0 := by unfold verE; rw [if_neg (by omega)]
  have hcls : clsP (nameK c.pool) c = (bigS 3405691582 4 ++ (bigS c.minor 2 ++ (bigS c.major 2 ++ ((l.drop 8).take Z.2.p ++ (restP (nameK P.1) c).1))), 0) := by
    have hr2 := congrArg Prod.snd (restP_eq G)
    simp only at hr2
    rw [clsP_rest, hve, hcl, hP1, b1, ← hP1]
    simp [seqP, allP, idxP, thenE, hr2]
  refine ⟨bigS 3405691582 4 ++ (bigS c.minor 2 ++ (bigS c.major 2 ++ ((l.drop 8).take Z.2.p ++ (restP (nameK P.1) c).1))), ?_, ?_, ?_⟩
  · rw [hcls]; rfl
  · obtain ⟨t, ht⟩ : ∃ t, t = bigS 3405691582 4 ++ (bigS c.minor 2 ++ (bigS c.major 2 ++ ((l.drop 8).take Z.2.p ++ (restP (nameK P.1) c).1))) := ⟨_, rfl⟩
    rw [← ht]
    have H0 : At t ⟨0, 0, 0⟩ (bigS 3405691582 4 ++ (bigS c.minor 2 ++ (bigS c.major 2 ++ ((l.drop 8).take Z.2.p ++ (restP (nameK P.1) c).1)))) := ⟨rfl, Nat.zero_le _, by rw [ht]; rfl⟩
    have a1 := H0.num (by decide)
    have H1 := H0.nextN
    have a2 := H1.num (by rw [hmi]; decide)
    have H2 := H1.nextN
    have a3 := H2.num (by rcases hma with hh | hh <;> rw [hh] <;> decide)
    have H3 := H2.nextN
    have hpre2 : preR t = (c.minor, c.major, ⟨8, 0, 0⟩) := by
      unfold preR
      simp only [a1, if_true, a2, a3]
      rw [if_pos ⟨hma, hmi⟩]; rfl
    have hd8 : t.drop 8 = (l.drop 8).take Z.2.p ++ (restP (nameK P.1) c).1 := H3.d
    have hl8 : 8 ≤ t.length := H3.p
    have hrr : refRead (t.drop 8) = (Z.1, Z.2.p, 0, 0) := by rw [hd8, b4]
    obtain ⟨Y, hY⟩ : ∃ Y, Y = poolR (t.drop 8) ⟨0, 0, 0⟩ := ⟨_, rfl⟩
    have hfy := read_ref (t.drop 8)
    rw [← hY, hrr] at hfy
    have hYe : Y.2.e = 0 := by
      unfold finR at hfy
      by_cases he : Y.2.e = 0
      · exact he
      · rw [if_pos he] at hfy
        simp only [Prod.mk.injEq] at hfy
        exact hfy.2.2.1
    unfold finR at hfy
    rw [if_neg (by simp [hYe])] at hfy
    simp only [Prod.mk.injEq, and_true] at hfy
    have hpool : poolR t ⟨8, 0, 0⟩ = (P.1, ⟨Z.2.p + 8, 0, 0⟩) := by
      rw [hs, sh_pool hl8, ← hY, hP1, ← hfy.1, ← hfy.2]
      simp [shS, hYe]
    have hlz : ((l.drop 8).take Z.2.p).length = Z.2.p := by simp; omega
    have H4 := H3.next
    rw [hlz] at H4
    have H5 : At t ⟨Z.2.p + 8, 0, 0⟩ (restP (nameK P.1) c).1 := by
      have : nx (nx (nx (nx ⟨0, 0, 0⟩ 4) 2) 2) Z.2.p = ⟨Z.2.p + 8, 0, 0⟩ := by simp [nx, Nat.add_comm]
      rw [← this]; exact H4
    obtain ⟨r1, r2⟩ := rest_at hp0 hpl c hcl G H5
    unfold readR
    simp only [hpre2, hpool]
    unfold finC
    rw [if_neg (by simp [r2]), r1]
  · simp only [List.length_append, bigS_len, List.length_take, List.length_drop]
    rw [hP2] at g1
    simp only at g1
    omega
theorem GC.fit {p : List Cst} {c : Cde} (G : GC p c) : c.Fit :=
  ⟨by have := G.s1; omega, by have := G.s2; omega, by have := G.l1; omega, by have := G.l2; omega, fun x hx => by
    have g := G.h x hx
    exact ⟨by have := g.f1; omega, by have := g.f2; omega, by have := g.t1; omega, by have := g.t2; omega, by have := g.g1; omega, by have := g.g2; omega, g.type⟩⟩
theorem Rounds.fit {l : List UInt8} {c : Cls} (D : Rounds l c) : c.Fit :=
  ⟨by rw [D.mi]; decide, by rcases D.ma with h | h <;> rw [h] <;> decide, D.g.flags, D.g.this, D.g.super, fun x hx => (D.p x hx).1, D.g.ifs, fun x hx => (D.g.fields x hx).fit,
    fun x hx => ⟨(D.g.methods x hx).flags, (D.g.methods x hx).name, (D.g.methods x hx).type, (D.g.methods x hx).code.fit⟩⟩
end
end Go.Proofs.Ytohkbpnblkkdgaa

/- Plain laws: bits of bytes; units of a text in modified UTF-8, by two readers. No condition. -/
import Derived.Test.YtgdmoimclelfhaaDoorVcS
namespace Go.Vc

theorem and_of (m : Nat) (hm : m < 256) (f : Nat → Nat) (hf : ∀ c : Fin 256, c.val &&& m = f c.val) (c : UInt8) : bitsV .and .u8 (c.toNat : Int) (m : Int) = ((f c.toNat : Nat) : Int) := by
  have hc : c.toNat < 256 := UInt8.toNat_lt c
  rw [bits_and rfl c.toNat m (by simpa [IntKind.bits] using hc) (by simpa [IntKind.bits] using hm)]
  rw [hf ⟨c.toNat, hc⟩]
theorem and_192 (c : UInt8) : bitsV .and .u8 (c.toNat : Int) 192 = ((c.toNat / 64 * 64 : Nat) : Int) := and_of 192 (by decide) (fun c => c / 64 * 64) (by decide +kernel) c
theorem and_224 (c : UInt8) : bitsV .and .u8 (c.toNat : Int) 224 = ((c.toNat / 32 * 32 : Nat) : Int) := and_of 224 (by decide) (fun c => c / 32 * 32) (by decide +kernel) c
theorem and_240 (c : UInt8) : bitsV .and .u8 (c.toNat : Int) 240 = ((c.toNat / 16 * 16 : Nat) : Int) := and_of 240 (by decide) (fun c => c / 16 * 16) (by decide +kernel) c
theorem and_63 (c : UInt8) : bitsV .and .u8 (c.toNat : Int) 63 = ((c.toNat % 64 : Nat) : Int) := and_of 63 (by decide) (fun c => c % 64) (by decide +kernel) c
theorem and_31 (c : UInt8) : bitsV .and .u8 (c.toNat : Int) 31 = ((c.toNat % 32 : Nat) : Int) := and_of 31 (by decide) (fun c => c % 32) (by decide +kernel) c
theorem and_15 (c : UInt8) : bitsV .and .u8 (c.toNat : Int) 15 = ((c.toNat % 16 : Nat) : Int) := and_of 15 (by decide) (fun c => c % 16) (by decide +kernel) c

theorem or_add (k a x : Nat) (hx : x < 2 ^ k) : a * 2 ^ k ||| x = a * 2 ^ k + x := by
  rw [← Nat.shiftLeft_eq]; exact (Nat.shiftLeft_add_eq_or_of_lt hx a).symm
theorem or_6 {a x : Nat} (hx : x < 64) (ha : a < 1024) : bitsV .or .u16 ((a : Int) * 64) (x : Int) = ((a * 64 + x : Nat) : Int) := by
  have h1 : ((a : Int) * 64) = ((a * 64 : Nat) : Int) := by omega
  rw [h1, bits_or rfl (a * 64) x (by simp [IntKind.bits]; omega) (by simp [IntKind.bits]; omega)]
  have := or_add 6 a x (by omega)
  rw [show (2 : Nat) ^ 6 = 64 from rfl] at this
  rw [this]
theorem or_12 {a x : Nat} (hx : x < 64) (ha : a < 16) : bitsV .or .u16 ((a : Int) * 4096) ((x : Int) * 64) = ((a * 64 + x : Nat) : Int) * 64 := by
  have h1 : ((a : Int) * 4096) = ((a * 4096 : Nat) : Int) := by omega
  have h2 : ((x : Int) * 64) = ((x * 64 : Nat) : Int) := by omega
  rw [h1, h2, bits_or rfl (a * 4096) (x * 64) (by simp [IntKind.bits]; omega) (by simp [IntKind.bits]; omega)]
  have := or_add 12 a (x * 64) (by omega)
  rw [show (2 : Nat) ^ 12 = 4096 from rfl] at this
  rw [this]; omega

/-! ### Units -/
def enc (u : Nat) : List UInt8 :=
  if 0 < u ∧ u < 128 then [UInt8.ofNat u]
  else if u < 2048 then [UInt8.ofNat (192 + u / 64), UInt8.ofNat (128 + u % 64)]
  else [UInt8.ofNat (224 + u / 4096), UInt8.ofNat (128 + u / 64 % 64), UInt8.ofNat (128 + u % 64)]
def textS (us : List Nat) : List UInt8 := us.flatMap enc

/-- One unit at a place: it, and how many bytes it has. -/
def moreS (l : List UInt8) (i : Nat) : Option Nat := if i < l.length ∧ (l.getD i 0).toNat / 64 = 2 then some ((l.getD i 0).toNat % 64) else none
def dec1 (l : List UInt8) (i : Nat) : Option (Nat × Nat) :=
  let c := (l.getD i 0).toNat
  if 0 < c ∧ c < 128 then some (c, 1)
  else if c / 32 = 6 then
    match moreS l (i + 1) with
    | some x => if c % 32 * 64 + x < 128 ∧ c % 32 * 64 + x ≠ 0 then none else some (c % 32 * 64 + x, 2)
    | none => none
  else if c / 16 = 14 then
    match moreS l (i + 1), moreS l (i + 2) with
    | some x, some y => if c % 16 * 4096 + x * 64 + y < 2048 then none else some (c % 16 * 4096 + x * 64 + y, 3)
    | _, _ => none
  else none

/-- The units from a place on (fuel: as many as there are bytes). -/
def unitsAt (l : List UInt8) : Nat → Nat → Option (List Nat)
  | 0, _ => some []
  | f + 1, i => if i < l.length then
      match dec1 l i with
      | some (u, n) => (unitsAt l f (i + n)).map fun r => u :: r
      | none => none
    else some []
def unitsS (l : List UInt8) : Option (List Nat) := unitsAt l l.length 0

theorem dec1_pos {l : List UInt8} {i u n : Nat} (h : dec1 l i = some (u, n)) : 1 ≤ n ∧ n ≤ 3 ∧ u < 65536 := by
  unfold dec1 at h
  simp only [] at h
  have hc := UInt8.toNat_lt (l.getD i 0)
  split at h
  · cases h; omega
  · split at h
    · split at h
      · rename_i x hx
        have : x < 64 := by unfold moreS at hx; split at hx <;> first | (cases hx; omega) | cases hx
        split at h
        · cases h
        · cases h; omega
      · cases h
    · split at h
      · split at h
        · rename_i x y hx hy
          have : x < 64 := by unfold moreS at hx; split at hx <;> first | (cases hx; omega) | cases hx
          have : y < 64 := by unfold moreS at hy; split at hy <;> first | (cases hy; omega) | cases hy
          split at h
          · cases h
          · cases h; omega
        · cases h
      · cases h

theorem unitsAt_fuel (l : List UInt8) : ∀ (f g i : Nat), l.length ≤ f + i → l.length ≤ g + i → unitsAt l f i = unitsAt l g i := by
  intro f
  induction f with
  | zero =>
    intro g i hf hg
    cases g with
    | zero => rfl
    | succ g => simp only [unitsAt]; rw [if_neg (by omega)]
  | succ f ih =>
    intro g i hf hg
    cases g with
    | zero => simp only [unitsAt]; rw [if_neg (by omega)]
    | succ g =>
      simp only [unitsAt]
      split
      · split
        · rename_i u n hd
          have := (dec1_pos hd).1
          rw [ih g (i + n) (by omega) (by omega)]
        · rfl
      · rfl

theorem moreS_lt {l : List UInt8} {i x : Nat} (h : moreS l i = some x) : x < 64 ∧ i < l.length := by
  unfold moreS at h; split at h
  · rename_i hc; cases h; exact ⟨by omega, hc.1⟩
  · cases h
theorem dec1_le {l : List UInt8} {i u n : Nat} (hi : i < l.length) (h : dec1 l i = some (u, n)) : i + n ≤ l.length := by
  unfold dec1 at h
  simp only [] at h
  split at h
  · cases h; omega
  · split at h
    · split at h
      · rename_i x hx
        have := moreS_lt hx
        split at h
        · cases h
        · cases h; omega
      · cases h
    · split at h
      · split at h
        · rename_i x y hx hy
          have := moreS_lt hy
          split at h
          · cases h
          · cases h; omega
        · cases h
      · cases h
theorem unitsAt_some {l : List UInt8} {i u n : Nat} (hi : i < l.length) (h : dec1 l i = some (u, n)) : unitsAt l (l.length - i) i = (unitsAt l (l.length - (i + n)) (i + n)).map fun r => u :: r := by
  rw [show l.length - i = (l.length - i - 1) + 1 by omega, unitsAt, if_pos hi, h]
  have := dec1_pos h
  have := dec1_le hi h
  simp only []
  rw [unitsAt_fuel l (l.length - i - 1) (l.length - (i + n)) (i + n) (by omega) (by omega)]
theorem unitsAt_none {l : List UInt8} {i : Nat} (hi : i < l.length) (h : dec1 l i = none) : unitsAt l (l.length - i) i = none := by
  rw [show l.length - i = (l.length - i - 1) + 1 by omega, unitsAt, if_pos hi, h]
theorem unitsAt_end {l : List UInt8} {i : Nat} (hi : ¬ i < l.length) : unitsAt l (l.length - i) i = some [] := by
  rw [show l.length - i = 0 by omega, unitsAt]
/-- What has been read so far, one unit more. -/
theorem units_step {l : List UInt8} {i u n : Nat} {us : List Nat} (hS : unitsS l = (unitsAt l (l.length - i) i).map fun r => us ++ r) (hi : i < l.length) (h : dec1 l i = some (u, n)) :
    unitsS l = (unitsAt l (l.length - (i + n)) (i + n)).map fun r => (us ++ [u]) ++ r := by
  rw [hS, unitsAt_some hi h, Option.map_map]
  congr 1; funext r; simp
theorem units_fail {l : List UInt8} {i : Nat} {us : List Nat} (hS : unitsS l = (unitsAt l (l.length - i) i).map fun r => us ++ r) (hi : i < l.length) (h : dec1 l i = none) : unitsS l = none := by
  rw [hS, unitsAt_none hi h]; rfl
theorem units_done {l : List UInt8} {i : Nat} {us : List Nat} (hS : unitsS l = (unitsAt l (l.length - i) i).map fun r => us ++ r) (hi : ¬ i < l.length) : unitsS l = some us := by
  rw [hS, unitsAt_end hi]; simp

theorem dec1_1 {l : List UInt8} {i : Nat} (h : 0 < (l.getD i 0).toNat ∧ (l.getD i 0).toNat < 128) : dec1 l i = some ((l.getD i 0).toNat, 1) := by
  unfold dec1; simp only []; rw [if_pos h]
theorem dec1_2 {l : List UInt8} {i x : Nat} (h : (l.getD i 0).toNat / 32 = 6) (hx : moreS l (i + 1) = some x) (hu : ¬ ((l.getD i 0).toNat % 32 * 64 + x < 128 ∧ (l.getD i 0).toNat % 32 * 64 + x ≠ 0)) : dec1 l i = some ((l.getD i 0).toNat % 32 * 64 + x, 2) := by
  unfold dec1; simp only []; rw [if_neg (by omega), if_pos h, hx]; simp only []; rw [if_neg hu]
theorem dec1_2n {l : List UInt8} {i : Nat} (h : (l.getD i 0).toNat / 32 = 6) (hx : moreS l (i + 1) = none) : dec1 l i = none := by
  unfold dec1; simp only []; rw [if_neg (by omega), if_pos h, hx]
theorem dec1_2f {l : List UInt8} {i x : Nat} (h : (l.getD i 0).toNat / 32 = 6) (hx : moreS l (i + 1) = some x) (hu : (l.getD i 0).toNat % 32 * 64 + x < 128 ∧ (l.getD i 0).toNat % 32 * 64 + x ≠ 0) : dec1 l i = none := by
  unfold dec1; simp only []; rw [if_neg (by omega), if_pos h, hx]; simp only []; rw [if_pos hu]
theorem dec1_3 {l : List UInt8} {i x y : Nat} (h : (l.getD i 0).toNat / 16 = 14) (hx : moreS l (i + 1) = some x) (hy : moreS l (i + 2) = some y) (hu : ¬ (l.getD i 0).toNat % 16 * 4096 + x * 64 + y < 2048) : dec1 l i = some ((l.getD i 0).toNat % 16 * 4096 + x * 64 + y, 3) := by
  unfold dec1; simp only []; rw [if_neg (by omega), if_neg (by omega), if_pos h, hx, hy]; simp only []; rw [if_neg hu]
theorem dec1_3f {l : List UInt8} {i x y : Nat} (h : (l.getD i 0).toNat / 16 = 14) (hx : moreS l (i + 1) = some x) (hy : moreS l (i + 2) = some y) (hu : (l.getD i 0).toNat % 16 * 4096 + x * 64 + y < 2048) : dec1 l i = none := by
  unfold dec1; simp only []; rw [if_neg (by omega), if_neg (by omega), if_pos h, hx, hy]; simp only []; rw [if_pos hu]
theorem dec1_3x {l : List UInt8} {i : Nat} (h : (l.getD i 0).toNat / 16 = 14) (hx : moreS l (i + 1) = none) : dec1 l i = none := by
  unfold dec1; simp only []; rw [if_neg (by omega), if_neg (by omega), if_pos h, hx]
theorem dec1_3y {l : List UInt8} {i : Nat} (h : (l.getD i 0).toNat / 16 = 14) (hy : moreS l (i + 2) = none) : dec1 l i = none := by
  unfold dec1; simp only []; rw [if_neg (by omega), if_neg (by omega), if_pos h, hy]; cases moreS l (i + 1) <;> rfl
theorem dec1_0 {l : List UInt8} {i : Nat} (h1 : ¬ (0 < (l.getD i 0).toNat ∧ (l.getD i 0).toNat < 128)) (h2 : ¬ (l.getD i 0).toNat / 32 = 6) (h3 : ¬ (l.getD i 0).toNat / 16 = 14) : dec1 l i = none := by
  unfold dec1; simp only []; rw [if_neg h1, if_neg h2, if_neg h3]

/-! ### Texts of units -/
theorem and16_63 {x : Int} (h0 : 0 ≤ x) (h1 : x < 65536) : bitsV .and .u16 x 63 = x % 64 := by
  obtain ⟨n, rfl⟩ := Int.eq_ofNat_of_zero_le h0
  have := bits_and (k := .u16) rfl n 63 (by simp [IntKind.bits]; omega) (by simp [IntKind.bits])
  rw [show ((63 : Nat) : Int) = 63 from rfl] at this
  rw [this, show (63 : Nat) = 2 ^ 6 - 1 from rfl, Nat.and_two_pow_sub_one_eq_mod]; omega
theorem or8 (m j a : Nat) (hm : m = a * 2 ^ j) (hm8 : m < 256) (hj : 2 ^ j ≤ 256) {x : Int} (h0 : 0 ≤ x) (h1 : x < 2 ^ j) : bitsV .or .u8 (m : Int) x = (m : Int) + x := by
  obtain ⟨n, rfl⟩ := Int.eq_ofNat_of_zero_le h0
  have hn : n < 2 ^ j := by have : ((n : Nat) : Int) < ((2 ^ j : Nat) : Int) := by simpa using h1
                            omega
  rw [bits_or (k := .u8) rfl m n (by simpa [IntKind.bits] using hm8) (by simp [IntKind.bits]; omega)]
  have := or_add j a n hn
  rw [hm, this]; simp
theorem or8_192 {x : Int} (h0 : 0 ≤ x) (h1 : x < 64) : bitsV .or .u8 192 x = 192 + x := or8 192 6 3 rfl (by decide) (by decide) h0 h1
theorem or8_128 {x : Int} (h0 : 0 ≤ x) (h1 : x < 64) : bitsV .or .u8 128 x = 128 + x := or8 128 6 2 rfl (by decide) (by decide) h0 h1
theorem or8_224 {x : Int} (h0 : 0 ≤ x) (h1 : x < 32) : bitsV .or .u8 224 x = 224 + x := or8 224 5 7 rfl (by decide) (by decide) h0 h1
theorem byte_nat {n : Nat} (h : n < 256) : ((UInt8.ofNat n).toNat : Int) = (n : Int) := by
  simp [UInt8.toNat_ofNat', Nat.mod_eq_of_lt h]
theorem bytesV_enc1 {u : Nat} (h1 : 0 < u) (h2 : u < 128) : bytesV (enc u) = [.int .u8 (u : Int)] := by
  rw [enc, if_pos ⟨h1, h2⟩]; simp only [bytesV, List.map_cons, List.map_nil, byte_nat (show u < 256 by omega)]
theorem bytesV_enc2 {u : Nat} (h1 : ¬ (0 < u ∧ u < 128)) (h2 : u < 2048) : bytesV (enc u) = [.int .u8 (192 + (u : Int) / 64), .int .u8 (128 + (u : Int) % 64)] := by
  rw [enc, if_neg h1, if_pos h2]; simp only [bytesV, List.map_cons, List.map_nil, byte_nat (show 192 + u / 64 < 256 by omega), byte_nat (show 128 + u % 64 < 256 by omega)]
  simp
theorem bytesV_enc3 {u : Nat} (h2 : ¬ u < 2048) (h3 : u < 65536) : bytesV (enc u) = [.int .u8 (224 + (u : Int) / 4096), .int .u8 (128 + (u : Int) / 64 % 64), .int .u8 (128 + (u : Int) % 64)] := by
  rw [enc, if_neg (by omega), if_neg h2]; simp only [bytesV, List.map_cons, List.map_nil, byte_nat (show 224 + u / 4096 < 256 by omega), byte_nat (show 128 + u / 64 % 64 < 256 by omega), byte_nat (show 128 + u % 64 < 256 by omega)]
  simp
theorem bytesV_append (a b : List UInt8) : bytesV (a ++ b) = bytesV a ++ bytesV b := by simp [bytesV]
theorem bytesV_length (a : List UInt8) : (bytesV a).length = a.length := by simp [bytesV]
theorem textS_step {us : List Nat} {i : Nat} (hi : i < us.length) : textS (us.take (i + 1)) = textS (us.take i) ++ enc (us.getD i 0) := by
  have hg : us.getD i 0 = us[i] := by simp [hi]
  rw [hg, List.take_succ_eq_append_getElem hi, textS, textS, List.flatMap_append]
  show _ ++ (enc us[i] ++ []) = _
  rw [List.append_nil]
theorem enc_len (u : Nat) : 1 ≤ (enc u).length ∧ (enc u).length ≤ 3 := by
  unfold enc; split
  · simp
  · split <;> simp
theorem textS_len : ∀ us : List Nat, (textS us).length ≤ 3 * us.length := by
  intro us
  induction us with
  | nil => simp [textS]
  | cons u us ih => have := enc_len u; simp only [textS, List.flatMap_cons, List.length_append, List.length_cons] at ih ⊢; omega

/-! ### The reference's way of one unit -/
theorem getD_drop {l : List UInt8} {i k : Nat} : (l.drop i).getD k 0 = l.getD (i + k) 0 := by
  simp [List.getD_eq_getElem?_getD]
def refU (l : List UInt8) (i : Nat) : Nat × Nat :=
  let c := (l.getD i 0).toNat
  if 224 ≤ c ∧ 3 ≤ l.length - i then (c % 16 * 4096 + (l.getD (i + 1) 0).toNat % 64 * 64 + (l.getD (i + 2) 0).toNat % 64, 3)
  else if 192 ≤ c ∧ 2 ≤ l.length - i then (c % 32 * 64 + (l.getD (i + 1) 0).toNat % 64, 2)
  else (c, 1)
theorem take_drop1 {l : List UInt8} {i : Nat} (h : i < l.length) : (l.drop i).take 1 = [l.getD i 0] := by
  rw [List.drop_eq_getElem_cons h]; show [l[i]] = _; simp [h]
theorem take_drop2 {l : List UInt8} {i : Nat} (h : i + 1 < l.length) : (l.drop i).take 2 = [l.getD i 0, l.getD (i + 1) 0] := by
  rw [List.drop_eq_getElem_cons (show i < l.length by omega), List.drop_eq_getElem_cons h]; show [l[i], l[i + 1]] = _; simp [h, show i < l.length by omega]
theorem take_drop3 {l : List UInt8} {i : Nat} (h : i + 2 < l.length) : (l.drop i).take 3 = [l.getD i 0, l.getD (i + 1) 0, l.getD (i + 2) 0] := by
  rw [List.drop_eq_getElem_cons (show i < l.length by omega), List.drop_eq_getElem_cons (show i + 1 < l.length by omega), List.drop_eq_getElem_cons h]; show [l[i], l[i + 1], l[i + 2]] = _; simp [h, show i < l.length by omega, show i + 1 < l.length by omega]
theorem byte_eq {n : Nat} {c : UInt8} (h : n < 256) : UInt8.ofNat n = c ↔ n = c.toNat := by
  constructor
  · intro e; rw [← e]; simp [UInt8.toNat_ofNat', Nat.mod_eq_of_lt h]
  · intro e; subst e; simp
theorem dec1_ref {l : List UInt8} {i : Nat} (hi : i < l.length) : dec1 l i = if enc (refU l i).1 = (l.drop i).take (refU l i).2 then some (refU l i) else none := by
  have hc := UInt8.toNat_lt (l.getD i 0)
  have hb := UInt8.toNat_lt (l.getD (i + 1) 0)
  have hd := UInt8.toNat_lt (l.getD (i + 2) 0)
  simp only [Nat.reducePow] at hc hb hd
  unfold refU
  simp only []
  by_cases a3 : 224 ≤ (l.getD i 0).toNat ∧ 3 ≤ l.length - i
  · rw [if_pos a3]
    simp only []
    rw [take_drop3 (by omega)]
    have hu : (l.getD i 0).toNat % 16 * 4096 + (l.getD (i + 1) 0).toNat % 64 * 64 + (l.getD (i + 2) 0).toNat % 64 < 65536 := by omega
    unfold enc dec1
    simp only [moreS]
    by_cases b1 : (l.getD i 0).toNat / 16 = 14
    · rw [if_neg (show ¬ (0 < (l.getD i 0).toNat ∧ (l.getD i 0).toNat < 128) by omega), if_neg (show ¬ (l.getD i 0).toNat / 32 = 6 by omega), if_pos b1]
      by_cases b2 : (l.getD (i + 1) 0).toNat / 64 = 2
      · by_cases b3 : (l.getD (i + 2) 0).toNat / 64 = 2
        · rw [if_pos ⟨by omega, b2⟩, if_pos ⟨by omega, b3⟩]
          simp only []
          by_cases b4 : (l.getD i 0).toNat % 16 * 4096 + (l.getD (i + 1) 0).toNat % 64 * 64 + (l.getD (i + 2) 0).toNat % 64 < 2048
          · rw [if_pos b4]
            symm
            rw [if_neg]
            split
            · simp
            · simp
          · rw [if_neg b4]
            symm
            rw [if_pos]
            rw [if_neg (by omega), if_neg b4]
            simp only [List.cons.injEq, and_true]
            refine ⟨(byte_eq (by omega)).2 (by omega), (byte_eq (by omega)).2 (by omega), (byte_eq (by omega)).2 (by omega)⟩
        · rw [if_pos ⟨by omega, b2⟩, if_neg (fun h => b3 h.2)]
          simp only []
          symm
          rw [if_neg]
          split
          · simp
          · split
            · simp
            · simp only [List.cons.injEq, and_true]
              rw [byte_eq (by omega), byte_eq (by omega), byte_eq (by omega)]; omega
      · rw [if_neg (fun h => b2 h.2)]
        simp only []
        symm
        rw [if_neg]
        split
        · simp
        · split
          · simp
          · simp only [List.cons.injEq, and_true]
            rw [byte_eq (by omega), byte_eq (by omega), byte_eq (by omega)]; omega
    · rw [if_neg (show ¬ (0 < (l.getD i 0).toNat ∧ (l.getD i 0).toNat < 128) by omega), if_neg (show ¬ (l.getD i 0).toNat / 32 = 6 by omega), if_neg b1]
      symm
      rw [if_neg]
      split
      · simp
      · split
        · simp
        · simp only [List.cons.injEq, and_true]
          rw [byte_eq (by omega), byte_eq (by omega), byte_eq (by omega)]; omega
  · rw [if_neg a3]
    by_cases a2 : 192 ≤ (l.getD i 0).toNat ∧ 2 ≤ l.length - i
    · rw [if_pos a2]
      simp only []
      rw [take_drop2 (by omega)]
      unfold enc dec1
      simp only [moreS]
      by_cases b1 : (l.getD i 0).toNat / 32 = 6
      · rw [if_neg (show ¬ (0 < (l.getD i 0).toNat ∧ (l.getD i 0).toNat < 128) by omega), if_pos b1]
        by_cases b2 : (l.getD (i + 1) 0).toNat / 64 = 2
        · rw [if_pos ⟨by omega, b2⟩]
          simp only []
          by_cases b4 : (l.getD i 0).toNat % 32 * 64 + (l.getD (i + 1) 0).toNat % 64 < 128 ∧ (l.getD i 0).toNat % 32 * 64 + (l.getD (i + 1) 0).toNat % 64 ≠ 0
          · rw [if_pos b4]
            symm
            rw [if_neg]
            rw [if_pos (by omega)]; simp
          · rw [if_neg b4]
            symm
            rw [if_pos]
            rw [if_neg (by omega), if_pos (by omega)]
            simp only [List.cons.injEq, and_true]
            refine ⟨(byte_eq (by omega)).2 (by omega), (byte_eq (by omega)).2 (by omega)⟩
        · rw [if_neg (fun h => b2 h.2)]
          simp only []
          symm
          rw [if_neg]
          split
          · simp
          · rw [if_pos (by omega)]
            simp only [List.cons.injEq, and_true]
            rw [byte_eq (by omega), byte_eq (by omega)]; omega
      · rw [if_neg (show ¬ (0 < (l.getD i 0).toNat ∧ (l.getD i 0).toNat < 128) by omega), if_neg b1]
        have : (if (l.getD i 0).toNat / 16 = 14 then
            match if i + 1 < l.length ∧ (l.getD (i + 1) 0).toNat / 64 = 2 then some ((l.getD (i + 1) 0).toNat % 64) else none, if i + 2 < l.length ∧ (l.getD (i + 2) 0).toNat / 64 = 2 then some ((l.getD (i + 2) 0).toNat % 64) else none with
            | some x, some y => if (l.getD i 0).toNat % 16 * 4096 + x * 64 + y < 2048 then none else some ((l.getD i 0).toNat % 16 * 4096 + x * 64 + y, 3)
            | _, _ => none
          else none : Option (Nat × Nat)) = none := by
          split
          · rw [if_neg (show ¬ (i + 2 < l.length ∧ (l.getD (i + 2) 0).toNat / 64 = 2) by omega)]
            split <;> simp_all
          · rfl
        rw [this]
        symm
        rw [if_neg]
        split
        · simp
        · rw [if_pos (by omega)]
          simp only [List.cons.injEq, and_true]
          rw [byte_eq (by omega), byte_eq (by omega)]; omega
    · rw [if_neg a2]
      simp only []
      rw [take_drop1 hi]
      unfold enc dec1
      simp only [moreS]
      by_cases b1 : 0 < (l.getD i 0).toNat ∧ (l.getD i 0).toNat < 128
      · rw [if_pos b1, if_pos b1, if_pos]
        simp
      · rw [if_neg b1, if_neg b1]
        have e1 : ¬ (i + 1 < l.length ∧ (l.getD (i + 1) 0).toNat / 64 = 2) ∨ (l.getD i 0).toNat / 32 ≠ 6 := by omega
        symm
        rw [if_neg (by split <;> simp)]
        symm
        split
        · rename_i h6
          rcases e1 with e1 | e1
          · rw [if_neg e1]
          · exact absurd h6 e1
        · split
          · rename_i h14
            by_cases h1 : i + 1 < l.length
            · rw [if_neg (show ¬ (i + 2 < l.length ∧ (l.getD (i + 2) 0).toNat / 64 = 2) by omega)]
              split <;> simp_all
            · rw [if_neg (show ¬ (i + 1 < l.length ∧ (l.getD (i + 1) 0).toNat / 64 = 2) by omega)]
          · rfl

end Go.Vc

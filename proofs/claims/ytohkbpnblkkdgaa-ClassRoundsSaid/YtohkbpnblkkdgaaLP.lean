/- Classes, and what writing one gives, in plain Lean. -/
import Derived.Test.YtohkbpnblkkdgaaME
namespace Go.Proofs.Ytohkbpnblkkdgaa
open Go.Vc
set_option maxRecDepth 100000
set_option linter.unusedSimpArgs false
set_option linter.unusedVariables false

theorem flat_len {α : Type} (f : α → List Value) (n : Nat) (hf : ∀ x, (f x).length = n) (l : List α) : (l.flatMap f).length = l.length * n := by
  induction l with
  | nil => simp
  | cons c l ih => rw [List.flatMap_cons, List.length_append, hf, ih, List.length_cons, Nat.add_mul]; omega
theorem flat_drop {α : Type} (f : α → List Value) (n : Nat) (hf : ∀ x, (f x).length = n) (l : List α) : ∀ k, (l.flatMap f).drop (k * n) = (l.drop k).flatMap f := by
  induction l with
  | nil => intro k; simp
  | cons c l ih =>
    intro k
    cases k with
    | zero => simp
    | succ k =>
      rw [show (k + 1) * n = n + k * n by rw [Nat.add_mul]; omega, ← List.drop_drop, List.flatMap_cons, List.drop_left' (hf c)]
      exact ih k
theorem flat_at {α : Type} (f : α → List Value) (n : Nat) (hf : ∀ x, (f x).length = n) {l : List α} {i : Nat} (d : α) (hi : i < l.length) : ((l.flatMap f).drop (i * n)).take n = f (l.getD i d) := by
  have h2 : l.drop i = l.getD i d :: l.drop (i + 1) := by rw [List.drop_eq_getElem_cons hi]; simp [hi]
  rw [flat_drop f n hf, h2, List.flatMap_cons]
  exact List.take_left' (hf _)
theorem take_snocD {α : Type} {l : List α} {i : Nat} (d : α) (hi : i < l.length) : l.take (i + 1) = l.take i ++ [l.getD i d] := by
  rw [List.take_succ_eq_append_getElem hi]; simp [hi]
structure Fld where
  flags : Nat
  name : Nat
  type : Nat
  value : Nat
structure Fld.Fit (f : Fld) : Prop where
  flags : f.flags < 65536
  name : f.name < 65536
  type : f.type < 65536
  value : f.value < 65536
def Fld.zero : Fld := ⟨0, 0, 0, 0⟩
def Fld.cells (f : Fld) : List Value := [.int .u16 (f.flags : Int), .int .u16 (f.name : Int), .int .u16 (f.type : Int), .int .u16 (f.value : Int)]
def flatF (l : List Fld) : List Value := l.flatMap Fld.cells
structure Hnd where
  from' : Int
  to : Int
  target : Int
  type : Nat
structure Hnd.Fit (f : Hnd) : Prop where
  f1 : -9223372036854775808 ≤ f.from'
  f2 : f.from' < 9223372036854775808
  t1 : -9223372036854775808 ≤ f.to
  t2 : f.to < 9223372036854775808
  g1 : -9223372036854775808 ≤ f.target
  g2 : f.target < 9223372036854775808
  type : f.type < 65536
def Hnd.zero : Hnd := ⟨0, 0, 0, 0⟩
def Hnd.cells (f : Hnd) : List Value := [.int .i64 f.from', .int .i64 f.to, .int .i64 f.target, .int .u16 (f.type : Int)]
def flatH (l : List Hnd) : List Value := l.flatMap Hnd.cells
structure Cde where
  maxS : Int
  maxL : Int
  bytes : List UInt8
  hs : List Hnd
  map : List UInt8
structure Cde.Fit (c : Cde) : Prop where
  s1 : -9223372036854775808 ≤ c.maxS
  s2 : c.maxS < 9223372036854775808
  l1 : -9223372036854775808 ≤ c.maxL
  l2 : c.maxL < 9223372036854775808
  hs : ∀ h ∈ c.hs, h.Fit
def CdeV (c : Cde) (vH : Value) : List Value := [.int .i64 c.maxS, .int .i64 c.maxL, str c.bytes, vH, str c.map]
structure Mth where
  flags : Nat
  name : Nat
  type : Nat
  has : Bool
  code : Cde
structure Mth.Fit (m : Mth) : Prop where
  flags : m.flags < 65536
  name : m.name < 65536
  type : m.type < 65536
  code : m.code.Fit
def Mth.zero : Mth := ⟨0, 0, 0, false, ⟨0, 0, [], [], []⟩⟩
def MthV (m : Mth) (vH : Value) : List Value := [.int .u16 (m.flags : Int), .int .u16 (m.name : Int), .int .u16 (m.type : Int), .bool m.has] ++ CdeV m.code vH
structure Cls where
  minor : Nat
  major : Nat
  flags : Nat
  this : Nat
  super : Nat
  pool : List Cst
  ifs : List Nat
  fields : List Fld
  methods : List Mth
def natV (l : List Nat) : List Value := l.map fun x : Nat => .int .u16 (x : Int)
/-- The cells of a class. -/
def ClsV (c : Cls) (vp vi vf vm : Value) : List Value := [.int .u16 (c.minor : Int), .int .u16 (c.major : Int), .int .u16 (c.flags : Int), .int .u16 (c.this : Int), .int .u16 (c.super : Int), vp, vi, vf, vm]
structure Cls.Fit (c : Cls) : Prop where
  minor : c.minor < 65536
  major : c.major < 65536
  flags : c.flags < 65536
  this : c.this < 65536
  super : c.super < 65536
  pool : ∀ x ∈ c.pool, x.Fit
  ifs : ∀ x ∈ c.ifs, x < 65536
  fields : ∀ x ∈ c.fields, x.Fit
  methods : ∀ x ∈ c.methods, x.Fit
/-- Methods in memory: rows, each with its list of handlers. -/
def MthC (h : Heap) (m : Mth) (r : List Value) : Prop := ∃ vH, r = MthV m vH ∧ SlN h 4 vH m.code.hs.length (flatH m.code.hs) ∧ capOk vH
def MthsC (h : Heap) (v : Value) (ms : List Mth) : Prop := ∃ rows : List (List Value), rows.length = ms.length ∧ SlN h 9 v ms.length rows.flatten ∧ (∀ j, j < ms.length → MthC h (ms.getD j Mth.zero) (rows.getD j []))
/-- What a class value holds. -/
structure ClsC (h : Heap) (c : Cls) (vp vi vf vm : Value) : Prop where
  p : SlN h 5 vp c.pool.length (flatS c.pool)
  pc : capOk vp
  i : SlN h 1 vi c.ifs.length (natV c.ifs)
  ic : capOk vi
  f : SlN h 4 vf c.fields.length (flatF c.fields)
  fc : capOk vf
  m : MthsC h vm c.methods
  mc : capOk vm
theorem MthC.ext {h h' : Heap} {m : Mth} {r : List Value} (H : MthC h m r) (hx : Ext h h') : MthC h' m r := by
  obtain ⟨vH, h1, h2, h3⟩ := H
  exact ⟨vH, h1, h2.ext (by decide) hx, h3⟩
theorem MthC.len {h : Heap} {m : Mth} {r : List Value} (H : MthC h m r) : r.length = 9 := by
  obtain ⟨vH, rfl, _⟩ := H; rfl
theorem MthsC.ext {h h' : Heap} {v : Value} {ms : List Mth} (H : MthsC h v ms) (hx : Ext h h') : MthsC h' v ms := by
  obtain ⟨rows, h1, h2, h3⟩ := H
  exact ⟨rows, h1, h2.ext (by decide) hx, fun j hj => (h3 j hj).ext hx⟩
theorem ClsC.ext {h h' : Heap} {c : Cls} {vp vi vf vm : Value} (H : ClsC h c vp vi vf vm) (hx : Ext h h') : ClsC h' c vp vi vf vm :=
  ⟨H.p.ext (by decide) hx, H.pc, H.i.ext (by decide) hx, H.ic, H.f.ext (by decide) hx, H.fc, H.m.ext hx, H.mc⟩
theorem flatten_row (n : Nat) : ∀ (rows : List (List Value)) (i : Nat), (∀ r ∈ rows, r.length = n) → i < rows.length → (rows.flatten.drop (i * n)).take n = rows.getD i [] := by
  intro rows
  induction rows with
  | nil => intro i _ hi; simp at hi
  | cons r rows ih =>
    intro i hall hi
    have hr := hall r (by simp)
    cases i with
    | zero => simp only [List.flatten_cons, Nat.zero_mul, List.drop_zero, List.getD_cons_zero]; exact List.take_left' hr
    | succ i =>
      rw [List.flatten_cons, show (i + 1) * n = n + i * n by rw [Nat.add_mul]; omega, ← List.drop_drop, List.drop_left' hr, List.getD_cons_succ]
      exact ih i (fun r hr' => hall r (by simp [hr'])) (by simpa using hi)
theorem MthsC.at {h : Heap} {v : Value} {ms : List Mth} (H : MthsC h v ms) {i : Nat} (hi : i < ms.length) : ∃ b o c vH, v = .slice (some ⟨b, o, none⟩) ms.length c ∧ Rd h b (o + i * 9) (MthV (ms.getD i Mth.zero) vH) ∧
    SlN h 4 vH (ms.getD i Mth.zero).code.hs.length (flatH (ms.getD i Mth.zero).code.hs) ∧ capOk vH := by
  obtain ⟨rows, h1, h2, h3⟩ := H
  obtain ⟨b, o, c, e1, e2, _⟩ := h2.at hi
  have hall : ∀ r ∈ rows, r.length = 9 := by
    intro r hr
    obtain ⟨j, hj, rfl⟩ := List.mem_iff_getElem.1 hr
    have := (h3 j (by omega)).len
    simpa [hj] using this
  rw [flatten_row 9 rows i hall (by omega)] at e2
  obtain ⟨vH, q1, q2, q3⟩ := h3 i hi
  rw [q1] at e2
  exact ⟨b, o, c, vH, e1, e2, q2, q3⟩

/-! ### Pieces of bytes, each with what is wrong in it -/
abbrev Pce := List UInt8 × Nat
def seqP (a b : Pce) : Pce := (a.1 ++ b.1, thenE a.2 b.2)
def allP {α : Type} (f : α → Pce) : List α → Pce
  | [] => ([], 0)
  | x :: r => seqP (f x) (allP f r)
theorem seqP_assoc (a b c : Pce) : seqP (seqP a b) c = seqP a (seqP b c) := by simp only [seqP, List.append_assoc, thenE_assoc]
theorem seqP_nil (a : Pce) : seqP a ([], 0) = a := by simp [seqP, thenE_zero]
theorem thenE_z (e : Nat) : thenE 0 e = e := by simp [thenE]
theorem nilP_seq (a : Pce) : seqP ([], 0) a = a := by simp [seqP, thenE_z]
theorem allP_snoc {α : Type} (f : α → Pce) (l : List α) (x : α) : allP f (l ++ [x]) = seqP (allP f l) (f x) := by
  induction l with
  | nil => simp only [List.nil_append, allP, seqP_nil, nilP_seq]
  | cons y r ih => simp only [List.cons_append, allP, ih, seqP_assoc]
def numP (x : Int) (n : Nat) : Pce := (bigS (atU x) n, if x < 0 ∨ (256 ^ n : Nat) ≤ x then 12 else 0)
def hitN (name : List UInt8) (c : Cst) : Bool := decide (c.tag = 1) && decide (c.text = name)
/-- The index of a name in a pool; from 0, or from 1. -/
def nameK (p : List Cst) (name : List UInt8) : Option Nat := p.findIdx? (hitN name)
def nameR (p : List Cst) (name : List UInt8) : Option Nat := ((p.drop 1).findIdx? (hitN name)).map (· + 1)
abbrev Look := List UInt8 → Option Nat
def attrP (K : Look) (name : List UInt8) (body : Pce) : Pce := match K name with
  | some k => (bigS k 2 ++ (bigS body.1.length 4 ++ body.1), body.2)
  | none => ([], 8)
def cvN : List UInt8 := [67, 111, 110, 115, 116, 97, 110, 116, 86, 97, 108, 117, 101]
def cdN : List UInt8 := [67, 111, 100, 101]
def smN : List UInt8 := [83, 116, 97, 99, 107, 77, 97, 112, 84, 97, 98, 108, 101]
def idxP (x : Nat) : Pce := (bigS x 2, 0)
def fldP (K : Look) (f : Fld) : Pce := seqP (allP idxP [f.flags, f.name, f.type]) (if f.value = 0 then (bigS 0 2, 0) else seqP (bigS 1 2, 0) (attrP K cvN (idxP f.value)))
def hndP (h : Hnd) : Pce := seqP (numP h.from' 2) (seqP (numP h.to 2) (seqP (numP h.target 2) (idxP h.type)))
def cdeP (K : Look) (c : Cde) : Pce :=
  seqP (numP c.maxS 2) (seqP (numP c.maxL 2) (seqP (bigS c.bytes.length 4 ++ c.bytes, 0) (seqP (numP c.hs.length 2) (seqP (allP hndP c.hs)
    (if c.map = [] then (bigS 0 2, 0) else seqP (bigS 1 2, 0) (attrP K smN (c.map, 0)))))))
def mthP (K : Look) (m : Mth) : Pce := seqP (allP idxP [m.flags, m.name, m.type]) (if m.has = true then seqP (bigS 1 2, 0) (attrP K cdN (cdeP K m.code)) else (bigS 0 2, 0))
def verE (c : Cls) : Nat := if (c.major ≠ 50 ∧ c.major ≠ 51) ∨ c.minor ≠ 0 then 4 else 0
def clsP (K : Look) (c : Cls) : Pce :=
  seqP (bigS 3405691582 4, 0) (seqP (allP idxP [c.minor, c.major]) (seqP ([], verE c) (seqP ((writeS c.pool).1, (writeS c.pool).2.1) (seqP (allP idxP [c.flags, c.this, c.super]) (seqP (numP c.ifs.length 2) (seqP (allP idxP c.ifs)
    (seqP (numP c.fields.length 2) (seqP (allP (fldP K) c.fields) (seqP (numP c.methods.length 2) (seqP (allP (mthP K) c.methods) (bigS 0 2, 0)))))))))))
def outP (p : Pce) : Pce := if p.2 ≠ 0 then ([], p.2) else (p.1, 0)

/-! ### How long -/
def mW (m : Mth) : Nat := m.code.bytes.length + m.code.map.length + m.code.hs.length
def sumW : List Mth → Nat
  | [] => 0
  | m :: r => mW m + sumW r
theorem sumW_take (l : List Mth) : ∀ i, sumW (l.take i) ≤ sumW l := by
  induction l with
  | nil => intro i; simp [sumW]
  | cons m r ih =>
    intro i
    cases i with
    | zero => simp [sumW]
    | succ i => have := ih i; simp only [List.take_succ_cons, sumW]; omega
theorem sumW_get {l : List Mth} {i : Nat} (hi : i < l.length) : mW (l.getD i Mth.zero) ≤ sumW l := by
  induction l generalizing i with
  | nil => simp at hi
  | cons m r ih =>
    cases i with
    | zero => simp [sumW]
    | succ i =>
      have := ih (i := i) (by simpa using hi)
      simp only [List.getD_cons_succ, sumW]; omega
theorem attrP_len (K : Look) (name : List UInt8) (Q : Pce) : (attrP K name Q).1.length ≤ Q.1.length + 6 := by
  unfold attrP
  split
  · simp only [List.length_append, bigS_len]; omega
  · simp
theorem allP_hnd_len (l : List Hnd) : (allP hndP l).1.length = 8 * l.length := by
  induction l with
  | nil => rfl
  | cons x r ih => simp only [allP, seqP, hndP, idxP, numP, List.length_append, bigS_len, ih, List.length_cons]; omega
theorem cdeP_len (K : Look) (c : Cde) : (cdeP K c).1.length ≤ 30 + c.bytes.length + c.map.length + 8 * c.hs.length := by
  have h1 := attrP_len K smN (c.map, 0)
  have h2 := allP_hnd_len c.hs
  simp only at h1
  unfold cdeP
  split
  · simp only [seqP, numP, List.length_append, bigS_len]; omega
  · simp only [seqP, numP, List.length_append, bigS_len]; omega
theorem mthP_len (K : Look) (m : Mth) : (mthP K m).1.length ≤ 60 + 8 * mW m := by
  have h1 := cdeP_len K m.code
  have h2 := attrP_len K cdN (cdeP K m.code)
  unfold mthP mW
  split
  · simp only [seqP, allP, idxP, List.length_append, bigS_len, List.length_nil]; omega
  · simp only [seqP, allP, idxP, List.length_append, bigS_len, List.length_nil]; omega
theorem fldP_len (K : Look) (f : Fld) : (fldP K f).1.length ≤ 20 := by
  have h2 := attrP_len K cvN (idxP f.value)
  simp only [idxP, bigS_len] at h2
  unfold fldP
  split
  · simp only [seqP, allP, idxP, List.length_append, bigS_len, List.length_nil]; omega
  · simp only [seqP, allP, idxP, List.length_append, bigS_len, List.length_nil]; omega
theorem allF_len (K : Look) (l : List Fld) : (allP (fldP K) l).1.length ≤ 20 * l.length := by
  induction l with
  | nil => simp [allP]
  | cons f r ih => have := fldP_len K f; simp only [allP, seqP, List.length_append, List.length_cons]; omega
theorem allM_len (K : Look) (l : List Mth) : (allP (mthP K) l).1.length ≤ 60 * l.length + 8 * sumW l := by
  induction l with
  | nil => simp [allP]
  | cons m r ih => have := mthP_len K m; simp only [allP, seqP, List.length_append, List.length_cons, sumW]; omega
def textW : List Cst → Nat
  | [] => 0
  | c :: r => c.text.length + textW r
theorem oneS_le (c : Cst) : (oneS c).length ≤ 20 + c.text.length := by
  unfold oneS bodyS
  repeat' split
  all_goals first | simp; done | (simp only [List.length_cons, List.length_append, bigS_len, List.length_nil]; omega)
theorem wrS_le : ∀ (l : List Cst) (e : Bool) (k : Nat) (s : List UInt8), (wrS l e k s).1.length ≤ s.length + 20 * l.length + textW l := by
  intro l
  induction l with
  | nil => intro e k s; simp only [wrS]; split <;> simp
  | cons c r ih =>
    intro e k s
    have h1 := oneS_le c
    rw [wrS]
    split
    · simp
    · have := ih (bigTwo c.tag) (k + 1) (s ++ oneS c)
      simp only [List.length_append] at this
      simp only [List.length_cons, textW]; omega
theorem writeS_le (l : List Cst) : (writeS l).1.length ≤ 2 + 20 * l.length + textW l := by
  unfold writeS
  split
  · simp
  · have := wrS_le l true 0 (bigS l.length 2)
    rw [bigS_len] at this
    omega
end Go.Proofs.Ytohkbpnblkkdgaa

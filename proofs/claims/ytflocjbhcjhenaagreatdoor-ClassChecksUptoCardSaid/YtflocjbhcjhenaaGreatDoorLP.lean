/- Numbers as bytes, errors in turn, blocks that are kept. Classes, and what writing one gives, in plain Lean. Rows of a class's lists; their cells are single values (plain). Another class like one, and the size of one. The law's own comparisons. No condition. -/
import Derived.Test.YtflocjbhcjhenaaGreatDoorPa
import Derived.Test.YtflocjbhcjhenaaGreatDoorCA
set_option linter.unusedSimpArgs false
set_option linter.unusedVariables false
namespace Go.Proofs.YtflocjbhcjhenaaGreatDoor
open Go.Vc
set_option maxRecDepth 100000
def KeepB (h h' : Heap) (g : Nat) : Prop := h.size ≤ h'.size ∧ ∀ c cs e fz, c ≠ g → e ≠ 5 → h[c]? = some (.cells cs e fz) → h'[c]? = some (.cells cs e fz)
theorem KeepB.refl (h : Heap) (g : Nat) : KeepB h h g := ⟨Nat.le_refl _, fun _ _ _ _ _ _ h => h⟩
theorem KeepB.trans {a b c : Heap} {g : Nat} (H : KeepB a b g) (K : KeepB b c g) : KeepB a c g := ⟨Nat.le_trans H.1 K.1, fun _ _ _ _ h1 h2 h3 => K.2 _ _ _ _ h1 h2 (H.2 _ _ _ _ h1 h2 h3)⟩
theorem KeepB.ext {h h' : Heap} {g : Nat} (H : Ext h h') : KeepB h h' g := ⟨H.size, fun _ _ _ _ _ _ h3 => Fr_blk H h3 id⟩
theorem KeepB.blk {h h' : Heap} {g c : Nat} {cs : Array Value} {t : TypeId} {fz : Nat × Nat} (H : KeepB h h' g) (hb : h[c]? = some (.cells cs t fz)) (hne : c ≠ g) (ht : t ≠ 5) : h'[c]? = some (.cells cs t fz) := H.2 _ _ _ _ hne ht hb
end Go.Proofs.YtflocjbhcjhenaaGreatDoor
namespace Go.Proofs.YtflocjbhcjhenaaGreatDoor
open Go.Vc
set_option maxRecDepth 100000
theorem flat_drop {α : Type} (f : α → List Value) (n : Nat) (hf : ∀ x, (f x).length = n) (l : List α) : ∀ k, (l.flatMap f).drop (k * n) = (l.drop k).flatMap f := by
  induction l with
  | nil => intro k; simp
  | cons c l ih =>
    intro k
    cases k with
    | zero => simp
    | succ k =>
      rw [show (k + 1) * n = n + k * n by rw [Nat.add_mul]; omega, ← List.drop_drop, List.flatMap_cons, List.drop_left' (hf c)]
      exact ih k
theorem flat_at {α : Type} (f : α → List Value) (n : Nat) (hf : ∀ x, (f x).length = n) {l : List α} {i : Nat} (d : α) (hi : i < l.length) : ((l.flatMap f).drop (i * n)).take n = f (l.getD i d) := by
  have h2 : l.drop i = l.getD i d :: l.drop (i + 1) := by rw [List.drop_eq_getElem_cons hi]; simp [hi]
  rw [flat_drop f n hf, h2, List.flatMap_cons]
  exact List.take_left' (hf _)
theorem take_snocD {α : Type} {l : List α} {i : Nat} (d : α) (hi : i < l.length) : l.take (i + 1) = l.take i ++ [l.getD i d] := by
  rw [List.take_succ_eq_append_getElem hi]; simp [hi]
structure Fld where
  flags : Nat
  name : Nat
  type : Nat
  value : Nat
structure Fld.Fit (f : Fld) : Prop where
  flags : f.flags < 65536
  name : f.name < 65536
  type : f.type < 65536
  value : f.value < 65536
def Fld.zero : Fld := ⟨0, 0, 0, 0⟩
def Fld.cells (f : Fld) : List Value := [.int .u16 (f.flags : Int), .int .u16 (f.name : Int), .int .u16 (f.type : Int), .int .u16 (f.value : Int)]
def flatF (l : List Fld) : List Value := l.flatMap Fld.cells
structure Hnd where
  from' : Int
  to : Int
  target : Int
  type : Nat
structure Hnd.Fit (f : Hnd) : Prop where
  f1 : -9223372036854775808 ≤ f.from'
  f2 : f.from' < 9223372036854775808
  t1 : -9223372036854775808 ≤ f.to
  t2 : f.to < 9223372036854775808
  g1 : -9223372036854775808 ≤ f.target
  g2 : f.target < 9223372036854775808
  type : f.type < 65536
def Hnd.zero : Hnd := ⟨0, 0, 0, 0⟩
def Hnd.cells (f : Hnd) : List Value := [.int .i64 f.from', .int .i64 f.to, .int .i64 f.target, .int .u16 (f.type : Int)]
def flatH (l : List Hnd) : List Value := l.flatMap Hnd.cells
structure Cde where
  maxS : Int
  maxL : Int
  bytes : List UInt8
  hs : List Hnd
  map : List UInt8
structure Cde.Fit (c : Cde) : Prop where
  s1 : -9223372036854775808 ≤ c.maxS
  s2 : c.maxS < 9223372036854775808
  l1 : -9223372036854775808 ≤ c.maxL
  l2 : c.maxL < 9223372036854775808
  hs : ∀ h ∈ c.hs, h.Fit
def CdeV (c : Cde) (vH : Value) : List Value := [.int .i64 c.maxS, .int .i64 c.maxL, str c.bytes, vH, str c.map]
structure Mth where
  flags : Nat
  name : Nat
  type : Nat
  has : Bool
  code : Cde
structure Mth.Fit (m : Mth) : Prop where
  flags : m.flags < 65536
  name : m.name < 65536
  type : m.type < 65536
  code : m.code.Fit
def Mth.zero : Mth := ⟨0, 0, 0, false, ⟨0, 0, [], [], []⟩⟩
def MthV (m : Mth) (vH : Value) : List Value := [.int .u16 (m.flags : Int), .int .u16 (m.name : Int), .int .u16 (m.type : Int), .bool m.has] ++ CdeV m.code vH
structure Cls where
  minor : Nat
  major : Nat
  flags : Nat
  this : Nat
  super : Nat
  pool : List Cst
  ifs : List Nat
  fields : List Fld
  methods : List Mth
def natV (l : List Nat) : List Value := l.map fun x : Nat => .int .u16 (x : Int)
def ClsV (c : Cls) (vp vi vf vm : Value) : List Value := [.int .u16 (c.minor : Int), .int .u16 (c.major : Int), .int .u16 (c.flags : Int), .int .u16 (c.this : Int), .int .u16 (c.super : Int), vp, vi, vf, vm]
structure Cls.Fit (c : Cls) : Prop where
  minor : c.minor < 65536
  major : c.major < 65536
  flags : c.flags < 65536
  this : c.this < 65536
  super : c.super < 65536
  pool : ∀ x ∈ c.pool, x.Fit
  ifs : ∀ x ∈ c.ifs, x < 65536
  fields : ∀ x ∈ c.fields, x.Fit
  methods : ∀ x ∈ c.methods, x.Fit
def MthC (h : Heap) (m : Mth) (r : List Value) : Prop := ∃ vH, r = MthV m vH ∧ SlN h 4 vH m.code.hs.length (flatH m.code.hs) ∧ capOk vH
def MthsC (h : Heap) (v : Value) (ms : List Mth) : Prop := ∃ rows : List (List Value), rows.length = ms.length ∧ SlN h 9 v ms.length rows.flatten ∧ (∀ j, j < ms.length → MthC h (ms.getD j Mth.zero) (rows.getD j []))
structure ClsC (h : Heap) (c : Cls) (vp vi vf vm : Value) : Prop where
  p : SlN h 5 vp c.pool.length (flatS c.pool)
  pc : capOk vp
  i : SlN h 1 vi c.ifs.length (natV c.ifs)
  ic : capOk vi
  f : SlN h 4 vf c.fields.length (flatF c.fields)
  fc : capOk vf
  m : MthsC h vm c.methods
  mc : capOk vm
theorem MthC.ext {h h' : Heap} {m : Mth} {r : List Value} (H : MthC h m r) (hx : Ext h h') : MthC h' m r := by
  obtain ⟨vH, h1, h2, h3⟩ := H
  exact ⟨vH, h1, h2.ext (by decide) hx, h3⟩
theorem MthC.len {h : Heap} {m : Mth} {r : List Value} (H : MthC h m r) : r.length = 9 := by
  obtain ⟨vH, rfl, _⟩ := H; rfl
theorem MthsC.ext {h h' : Heap} {v : Value} {ms : List Mth} (H : MthsC h v ms) (hx : Ext h h') : MthsC h' v ms := by
  obtain ⟨rows, h1, h2, h3⟩ := H
  exact ⟨rows, h1, h2.ext (by decide) hx, fun j hj => (h3 j hj).ext hx⟩
theorem ClsC.ext {h h' : Heap} {c : Cls} {vp vi vf vm : Value} (H : ClsC h c vp vi vf vm) (hx : Ext h h') : ClsC h' c vp vi vf vm :=
  ⟨H.p.ext (by decide) hx, H.pc, H.i.ext (by decide) hx, H.ic, H.f.ext (by decide) hx, H.fc, H.m.ext hx, H.mc⟩
theorem flatten_row (n : Nat) : ∀ (rows : List (List Value)) (i : Nat), (∀ r ∈ rows, r.length = n) → i < rows.length → (rows.flatten.drop (i * n)).take n = rows.getD i [] := by
  intro rows
  induction rows with
  | nil => intro i _ hi; simp at hi
  | cons r rows ih =>
    intro i hall hi
    have hr := hall r (by simp)
    cases i with
    | zero => simp only [List.flatten_cons, Nat.zero_mul, List.drop_zero, List.getD_cons_zero]; exact List.take_left' hr
    | succ i =>
      rw [List.flatten_cons, show (i + 1) * n = n + i * n by rw [Nat.add_mul]; omega, ← List.drop_drop, List.drop_left' hr, List.getD_cons_succ]
      exact ih i (fun r hr' => hall r (by simp [hr'])) (by simpa using hi)
theorem MthsC.at {h : Heap} {v : Value} {ms : List Mth} (H : MthsC h v ms) {i : Nat} (hi : i < ms.length) : ∃ b o c vH, v = .slice (some ⟨b, o, none⟩) ms.length c ∧ Rd h b (o + i * 9) (MthV (ms.getD i Mth.zero) vH) ∧
    SlN h 4 vH (ms.getD i Mth.zero).code.hs.length (flatH (ms.getD i Mth.zero).code.hs) ∧ capOk vH := by
  obtain ⟨rows, h1, h2, h3⟩ := H
  obtain ⟨b, o, c, e1, e2, _⟩ := h2.at hi
  have hall : ∀ r ∈ rows, r.length = 9 := by
    intro r hr
    obtain ⟨j, hj, rfl⟩ := List.mem_iff_getElem.1 hr
    have := (h3 j (by omega)).len
    simpa [hj] using this
  rw [flatten_row 9 rows i hall (by omega)] at e2
  obtain ⟨vH, q1, q2, q3⟩ := h3 i hi
  rw [q1] at e2
  exact ⟨b, o, c, vH, e1, e2, q2, q3⟩
def mW (m : Mth) : Nat := m.code.bytes.length + m.code.map.length + m.code.hs.length
def sumW : List Mth → Nat
  | [] => 0
  | m :: r => mW m + sumW r
theorem sumW_take (l : List Mth) : ∀ i, sumW (l.take i) ≤ sumW l := by
  induction l with
  | nil => intro i; simp [sumW]
  | cons m r ih =>
    intro i
    cases i with
    | zero => simp [sumW]
    | succ i => have := ih i; simp only [List.take_succ_cons, sumW]; omega
theorem sumW_get {l : List Mth} {i : Nat} (hi : i < l.length) : mW (l.getD i Mth.zero) ≤ sumW l := by
  induction l generalizing i with
  | nil => simp at hi
  | cons m r ih =>
    cases i with
    | zero => simp [sumW]
    | succ i =>
      have := ih (i := i) (by simpa using hi)
      simp only [List.getD_cons_succ, sumW]; omega
def textW : List Cst → Nat
  | [] => 0
  | c :: r => c.text.length + textW r
end Go.Proofs.YtflocjbhcjhenaaGreatDoor
namespace Go.Proofs.YtflocjbhcjhenaaGreatDoor
open Go.Vc
set_option maxRecDepth 100000
theorem natV_at {l : List Nat} {i : Nat} (hi : i < l.length) : ((natV l).drop (i * 1)).take 1 = [.int .u16 ((l.getD i 0 : Nat) : Int)] := by
  rw [Nat.mul_one]
  unfold natV
  rw [List.drop_eq_getElem_cons (by simpa using hi)]
  simp [hi]
theorem flatH_at {l : List Hnd} {i : Nat} (hi : i < l.length) : ((flatH l).drop (i * 4)).take 4 = (l.getD i Hnd.zero).cells := flat_at Hnd.cells 4 (fun _ => rfl) Hnd.zero hi
theorem flatF_at {l : List Fld} {i : Nat} (hi : i < l.length) : ((flatF l).drop (i * 4)).take 4 = (l.getD i Fld.zero).cells := flat_at Fld.cells 4 (fun _ => rfl) Fld.zero hi
theorem cell_ext {h h' : Heap} (x : Ext h h') {b j : Nat} {v : Value} (hc : cellAt h ⟨b, j, none⟩ = some v) : cellAt h' ⟨b, j, none⟩ = some v := by
  rw [x.cell (sp := none) (cellAt_lt hc) id]; exact hc
theorem one_flat {α : Type} (f : α → List Value) (hf : ∀ x, ∀ u ∈ f x, oneCell u = true) (l : List α) : ∀ u ∈ l.flatMap f, oneCell u = true := by
  intro u hu
  obtain ⟨x, _, hx⟩ := List.mem_flatMap.1 hu
  exact hf x u hx
theorem one_S (l : List Cst) : ∀ u ∈ flatS l, oneCell u = true := one_flat Cst.cells (fun x u hu => by
  simp only [Cst.cells, List.mem_cons, List.not_mem_nil, or_false] at hu
  rcases hu with rfl | rfl | rfl | rfl | rfl <;> rfl) l
theorem one_F (l : List Fld) : ∀ u ∈ flatF l, oneCell u = true := one_flat Fld.cells (fun x u hu => by
  simp only [Fld.cells, List.mem_cons, List.not_mem_nil, or_false] at hu
  rcases hu with rfl | rfl | rfl | rfl <;> rfl) l
theorem one_H (l : List Hnd) : ∀ u ∈ flatH l, oneCell u = true := one_flat Hnd.cells (fun x u hu => by
  simp only [Hnd.cells, List.mem_cons, List.not_mem_nil, or_false] at hu
  rcases hu with rfl | rfl | rfl | rfl <;> rfl) l
theorem one_N (l : List Nat) : ∀ u ∈ natV l, oneCell u = true := by
  intro u hu
  obtain ⟨x, _, rfl⟩ := List.mem_map.1 hu
  rfl
theorem one_M {m : Mth} {vH : Value} (hv : oneCell vH = true) : ∀ u ∈ MthV m vH, oneCell u = true := by
  intro u hu
  simp only [MthV, CdeV, List.cons_append, List.nil_append, List.mem_cons, List.not_mem_nil, or_false] at hu
  rcases hu with rfl | rfl | rfl | rfl | rfl | rfl | rfl | rfl | rfl <;> first | rfl | exact hv
end Go.Proofs.YtflocjbhcjhenaaGreatDoor
namespace Go.Proofs.YtflocjbhcjhenaaGreatDoor
open Go.Vc
set_option maxRecDepth 100000
theorem flatten_set (n : Nat) (u : Value) (k : Nat) (hk : k < n) : ∀ (rows : List (List Value)) (i : Nat), (∀ r ∈ rows, r.length = n) → i < rows.length → rows.flatten.set (i * n + k) u = (rows.set i ((rows.getD i []).set k u)).flatten := by
  intro rows
  induction rows with
  | nil => intro i _ hi; simp at hi
  | cons r rows ih =>
    intro i hall hi
    have hr := hall r (by simp)
    cases i with
    | zero =>
      simp only [List.flatten_cons, Nat.zero_mul, Nat.zero_add, List.set_cons_zero, List.getD_cons_zero]
      rw [List.set_append, if_pos (by omega)]
    | succ i =>
      have := ih i (fun r hr' => hall r (by simp [hr'])) (by simpa using hi)
      simp only [List.flatten_cons, List.set_cons_succ, List.getD_cons_succ]
      rw [List.set_append, if_neg (by rw [hr, Nat.add_mul]; omega), show (i + 1) * n + k - r.length = i * n + k by rw [hr, Nat.add_mul]; omega, this]
theorem Own.cell {h : Heap} {base : Nat} {e : TypeId} {size n : Nat} {v : Value} {ys : List Value} (H : Own h base e size v n ys) {p : Nat} (hp : p < n * size) : ∃ g c, v = .slice (some ⟨g, 0, none⟩) n c ∧ base ≤ g ∧ (∃ cs fz, h[g]? = some (.cells cs e fz)) ∧ cellAt h ⟨g, p, none⟩ = some (ys.getD p undef) ∧ frozenAt h ⟨g, p, none⟩ = false ∧
    ∀ z, Own (setAt h ⟨g, p, none⟩ z) base e size (.slice (some ⟨g, 0, none⟩) n c) n (ys.set p z) := by
  obtain ⟨hl, h0⟩ := H
  rcases h0 with ⟨_, rfl⟩ | ⟨g, cap, cur, fz, rfl, hb, hg, hfz, hnc, hcm, hcs, htk⟩
  · omega
  · have hps : p < cap * size := Nat.lt_of_lt_of_le hp (Nat.mul_le_mul_right _ hnc)
    refine ⟨g, cap, rfl, hb, ⟨cur, fz, hg⟩, ?_, ?_, ?_⟩
    · rw [cellAt_of hg]
      have h1 : cur.toList[p]? = ys[p]? := by
        rw [← htk, List.getElem?_take, if_pos hp]
      have h2 : p < ys.length := by omega
      have h3 : cur[p]? = cur.toList[p]? := by simp
      rw [h3, h1]
      simp [h2]
    · have := hfz p hps
      simp only [frozenAt, hg]
      simp only [Bool.and_eq_false_iff, decide_eq_false_iff_not]
      omega
    · intro z
      refine ⟨by simpa using hl, .inr ⟨g, cap, cur.setIfInBounds p z, fz, rfl, hb, setAt_get hg z, hfz, hnc, hcm, by simpa using hcs, ?_⟩⟩
      rw [Array.toList_setIfInBounds, List.take_set, htk]
structure AN (h hc : Heap) (cb : Nat) (cs : List Value) (rb : Nat) (zs : Array Value) : Prop where
  c1 : h.size ≤ cb
  r1 : h.size ≤ rb
  ne : cb ≠ rb
  x : Ext h hc
  cb : hc[cb]? = some (.cells cs.toArray 28 (0, 0))
  rb : hc[rb]? = some (.cells zs 28 (0, 0))
section
variable {h hc : Heap} {cb rb : Nat} {cs : List Value} {zs : Array Value}
theorem AN.ext {h' : Heap} (A : AN h hc cb cs rb zs) (x : Ext hc h') : AN h h' cb cs rb zs := ⟨A.c1, A.r1, A.ne, A.x.trans x, Fr_blk x A.cb id, Fr_blk x A.rb id⟩
theorem AN.set (A : AN h hc cb cs rb zs) (i : Nat) (v : Value) : AN h (setAt hc ⟨cb, i, none⟩ v) cb (cs.set i v) rb zs ∧ Fr (fun k => k = cb) hc (setAt hc ⟨cb, i, none⟩ v) := by
  have f1 : Fr (fun k => k = cb) hc (setAt hc ⟨cb, i, none⟩ v) := Fr.set (S := fun k => k = cb) _ _ _ fun _ => rfl
  have b1 := setAt_get (o := i) A.cb v
  refine ⟨⟨A.c1, A.r1, A.ne, Fr.trans A.x f1 (fun _ _ h => h) (fun k hk hS => by have := A.c1; omega), ?_, Fr_blk f1 A.rb (fun hh => A.ne hh.symm)⟩, f1⟩
  rw [b1]; simp
theorem AN.own {v : Value} {n size : Nat} {e : TypeId} {xs : List Value} {h' : Heap} (A : AN h hc cb cs rb zs) (O : Own hc h.size e size v n xs) (ht : e ≠ 28) (f : Fr (fun k => k = cb) hc h') : Own h' h.size e size v n xs :=
  O.fr f fun k hk hS => by
    subst hS
    exact Own_ne O A.cb ht hk
theorem ext_nil {h h' : Heap} (f : Fr (fun k => (Value.slice none 0 0).ownBlock = some k) h h') : Ext h h' := Fr.trans f (Ext.refl _) (fun _ _ hh => by cases hh) (fun _ _ hh => hh.elim)
end
structure HM (h hc : Heap) (i : Nat) (v : Value) (ms : List Mth) (rows : List (List Value)) : Prop where
  l : rows.length = ms.length
  o : Own hc h.size 43 9 v ms.length rows.flatten
  r : ∀ j, j < ms.length → ∃ vH, rows.getD j [] = MthV (ms.getD j Mth.zero) vH ∧ (j < i → Own hc h.size 86 4 vH (ms.getD j Mth.zero).code.hs.length (flatH (ms.getD j Mth.zero).code.hs)) ∧
    (i ≤ j → SlN h 4 vH (ms.getD j Mth.zero).code.hs.length (flatH (ms.getD j Mth.zero).code.hs))
theorem HM.ext {h hc h' : Heap} {i : Nat} {v : Value} {ms : List Mth} {rows : List (List Value)} (H : HM h hc i v ms rows) (x : Ext hc h') : HM h h' i v ms rows :=
  ⟨H.l, H.o.ext x, fun j hj => by
    obtain ⟨vH, h1, h2, h3⟩ := H.r j hj
    exact ⟨vH, h1, fun hh => (h2 hh).ext x, h3⟩⟩
theorem HM.nine {h hc : Heap} {i : Nat} {v : Value} {ms : List Mth} {rows : List (List Value)} (H : HM h hc i v ms rows) : ∀ r ∈ rows, r.length = 9 := by
  intro r hr
  obtain ⟨j, hj, rfl⟩ := List.mem_iff_getElem.1 hr
  obtain ⟨vH, h1, _⟩ := H.r j (by rw [← H.l]; exact hj)
  simp [hj] at h1
  rw [h1]; rfl
theorem HM.next {h hc h1 : Heap} {i : Nat} {v : Value} {ms : List Mth} {rows : List (List Value)} (H : HM h hc i v ms rows) (hi : i < ms.length) (x : Ext hc h1) {u : Value} (O : Own h1 h.size 86 4 u (ms.getD i Mth.zero).code.hs.length (flatH (ms.getD i Mth.zero).code.hs)) :
    ∃ g c, v = .slice (some ⟨g, 0, none⟩) ms.length c ∧ h.size ≤ g ∧ (∃ cs fz, h1[g]? = some (.cells cs 43 fz)) ∧ (∃ w, cellAt h1 ⟨g, i * 9 + 7, none⟩ = some w) ∧ frozenAt h1 ⟨g, i * 9 + 7, none⟩ = false ∧
      HM h (setAt h1 ⟨g, i * 9 + 7, none⟩ u) (i + 1) v ms (rows.set i (MthV (ms.getD i Mth.zero) u)) := by
  have H1 := H.ext x
  obtain ⟨g, c, rfl, hg, ⟨cs, fz, hb⟩, hc1, hfz, hset⟩ := Own.cell H1.o (p := i * 9 + 7) (by omega)
  refine ⟨g, c, rfl, hg, ⟨cs, fz, hb⟩, ⟨_, hc1⟩, hfz, ?_⟩
  have f1 : Fr (fun k => k = g) h1 (setAt h1 ⟨g, i * 9 + 7, none⟩ u) := Fr.set (S := fun k => k = g) _ _ _ fun _ => rfl
  have hfl := flatten_set 9 u 7 (by decide) rows i H1.nine (by rw [H1.l]; exact hi)
  obtain ⟨vH, e1, _, _⟩ := H1.r i hi
  rw [e1] at hfl
  have hs := hset u
  rw [hfl] at hs
  refine ⟨by rw [List.length_set]; exact H1.l, hs, fun j hj => ?_⟩
  have keep : ∀ {w : Value} {m : Nat} {ys : List Value}, Own h1 h.size 86 4 w m ys → Own (setAt h1 ⟨g, i * 9 + 7, none⟩ u) h.size 86 4 w m ys := fun OO => OO.fr f1 fun k hk hS => by
    subst hS
    exact Own_ne OO hb (by decide) hk
  by_cases hji : j = i
  · subst hji
    refine ⟨u, ?_, fun _ => keep O, fun hh => by omega⟩
    have : j < rows.length := by rw [H1.l]; exact hj
    simp [this]
  · obtain ⟨vJ, j1, j2, j3⟩ := H1.r j hj
    refine ⟨vJ, ?_, fun hh => keep (j2 (by omega)), fun hh => j3 (by omega)⟩
    rw [← j1]
    simp only [List.getD_eq_getElem?_getD]
    rw [List.getElem?_set_ne (fun hh => hji hh.symm)]
set_option maxHeartbeats 8000000 in
theorem another_any (c : Cls) (vp vi vf vm : Value) (h : Heap) (hC : ClsC h c vp vi vf vm) (hpl : c.pool.length ≤ 1048576) (hil : c.ifs.length ≤ 1048576) (hfl : c.fields.length ≤ 1048576)
    (hml : c.methods.length ≤ 1048576) (hsw : sumW c.methods ≤ 1048576) :
    HCalls Tryz.prog 5 #[.agg (ClsV c vp vi vf vm).toArray] h fun r h' => Ext h h' ∧ ∃ vp' vi' vf' vm', r = .agg (ClsV c vp' vi' vf' vm').toArray ∧ ClsC h' c vp' vi' vf' vm' := by
  refine C.law3_another_calls (args := [.agg (ClsV c vp vi vf vm).toArray]) rfl ?_
  have hCp := hC.p
  have hCi := hC.i
  have hCf := hC.f
  obtain ⟨rows, hrl, hrs, hrm⟩ := hC.m
  obtain ⟨_, ap, cp, rfl, _⟩ := id hC.p
  obtain ⟨_, ai, ci, rfl, _⟩ := id hC.i
  obtain ⟨_, af, cf, rfl, _⟩ := id hC.f
  obtain ⟨_, am, cm, rfl, _⟩ := id hrs
  simp only [ClsV]
  simp only [C.law3_another_gos, T.tv]
  refine eff_box ?_
  have e1 : Ext h (h.push (.cells ([.int .u16 (c.minor : Int), .int .u16 (c.major : Int), .int .u16 (c.flags : Int), .int .u16 (c.this : Int), .int .u16 (c.super : Int), .slice ap c.pool.length cp, .slice ai c.ifs.length ci, .slice af c.fields.length cf, .slice am c.methods.length cm] : List Value).toArray 28)) := Ext.push _ _
  have cb0 : (h.push (.cells ([.int .u16 (c.minor : Int), .int .u16 (c.major : Int), .int .u16 (c.flags : Int), .int .u16 (c.this : Int), .int .u16 (c.super : Int), .slice ap c.pool.length cp, .slice ai c.ifs.length ci, .slice af c.fields.length cf, .slice am c.methods.length cm] : List Value).toArray 28))[h.size]? = some (.cells ([.int .u16 (c.minor : Int), .int .u16 (c.major : Int), .int .u16 (c.flags : Int), .int .u16 (c.this : Int), .int .u16 (c.super : Int), .slice ap c.pool.length cp, .slice ai c.ifs.length ci, .slice af c.fields.length cf, .slice am c.methods.length cm] : List Value).toArray 28 (0, 0)) := by simp
  have hs1 : (h.push (.cells ([.int .u16 (c.minor : Int), .int .u16 (c.major : Int), .int .u16 (c.flags : Int), .int .u16 (c.this : Int), .int .u16 (c.super : Int), .slice ap c.pool.length cp, .slice ai c.ifs.length ci, .slice af c.fields.length cf, .slice am c.methods.length cm] : List Value).toArray 28)).size = h.size + 1 := by simp
  simp only [T.tv, seval]
  generalize h.push (.cells ([.int .u16 (c.minor : Int), .int .u16 (c.major : Int), .int .u16 (c.flags : Int), .int .u16 (c.this : Int), .int .u16 (c.super : Int), .slice ap c.pool.length cp, .slice ai c.ifs.length ci, .slice af c.fields.length cf, .slice am c.methods.length cm] : List Value).toArray 28) = h1 at *
  refine eff_alloc_z T.zr_28 ?_
  simp only [C.law3_another_gos, T.tv, seval]
  have e2 : Ext h1 (h1.push (.cells #[.int .u16 0, .int .u16 0, .int .u16 0, .int .u16 0, .int .u16 0, .slice none 0 0, .slice none 0 0, .slice none 0 0, .slice none 0 0] 28)) := Ext.push _ _
  have A0 : AN h (h1.push (.cells #[.int .u16 0, .int .u16 0, .int .u16 0, .int .u16 0, .int .u16 0, .slice none 0 0, .slice none 0 0, .slice none 0 0, .slice none 0 0] 28)) h.size [.int .u16 (c.minor : Int), .int .u16 (c.major : Int), .int .u16 (c.flags : Int), .int .u16 (c.this : Int), .int .u16 (c.super : Int), .slice ap c.pool.length cp, .slice ai c.ifs.length ci, .slice af c.fields.length cf, .slice am c.methods.length cm] h1.size #[.int .u16 0, .int .u16 0, .int .u16 0, .int .u16 0, .int .u16 0, .slice none 0 0, .slice none 0 0, .slice none 0 0, .slice none 0 0] :=
    ⟨Nat.le_refl _, by omega, by omega, e1.trans e2, Fr_blk e2 cb0 id, by simp⟩
  generalize h1.push (.cells #[.int .u16 0, .int .u16 0, .int .u16 0, .int .u16 0, .int .u16 0, .slice none 0 0, .slice none 0 0, .slice none 0 0, .slice none 0 0] 28) = g0 at *
  generalize h1.size = rb at *
  obtain ⟨cb, hcb⟩ : ∃ x, x = h.size := ⟨_, rfl⟩
  have A0' := A0
  rw [← hcb] at A0' ⊢
  clear A0 e1 e2 cb0 hs1
  have A0 := A0'
  clear A0'
  have hbase := A0.x.size
  have hall9 : ∀ r ∈ rows, r.length = 9 := by
    intro r hr
    obtain ⟨j, hj, rfl⟩ := List.mem_iff_getElem.1 hr
    have := (hrm j (by omega)).len
    simpa [hj] using this
  have hone : ∀ u ∈ rows.flatten, oneCell u = true := by
    intro u hu
    obtain ⟨r, hr, hur⟩ := List.mem_flatten.1 hu
    obtain ⟨j, hj, rfl⟩ := List.mem_iff_getElem.1 hr
    obtain ⟨vH, e1, e2, _⟩ := hrm j (by omega)
    obtain ⟨_, a, cc, rfl, _⟩ := e2
    simp [hj] at e1
    rw [e1] at hur
    exact one_M rfl u hur
  have k5 : cellAt g0 ⟨cb, 5, none⟩ = some (.slice ap c.pool.length cp) := by rw [cellAt_of A0.cb]; rfl
  simp only [T.tv, k5]
  refine eff_append_slN (xs := []) (n := 0) (base := h.size) (m := c.pool.length) (news := (flatS c.pool)) T.slT_23 rfl rfl Own.nil (hCp.ext (by decide) A0.x) (one_S _) (by omega) (by omega) A0.x.size ?_
  intro v0 m0 own0 fr
  have x := ext_nil fr
  rw [Nat.zero_add, List.nil_append] at own0
  have B := A0.ext x
  have c6 : cellAt m0 ⟨cb, 5, none⟩ = some (.slice ap c.pool.length cp) := by rw [cellAt_of B.cb]; rfl
  have z6 : frozenAt m0 ⟨cb, 5, none⟩ = false := by simp [frozenAt, B.cb]
  obtain ⟨a0, d0, rfl, _⟩ := own0.slN.2
  simp only [T.tv, seval]
  refine eff_store1_z T.zr_23 rfl rfl rfl rfl rfl c6 z6 ?_
  obtain ⟨A1, f⟩ := B.set 5 (.slice a0 c.pool.length d0)
  have own0 := B.own own0 (by decide) f
  change AN h _ cb [.int .u16 (c.minor : Int), .int .u16 (c.major : Int), .int .u16 (c.flags : Int), .int .u16 (c.this : Int), .int .u16 (c.super : Int), .slice a0 c.pool.length d0, .slice ai c.ifs.length ci, .slice af c.fields.length cf, .slice am c.methods.length cm] rb _ at A1
  generalize setAt m0 ⟨cb, 5, none⟩ _ = g1 at *
  clear k5 c6 z6 x fr B f A0
  have k5 : cellAt g1 ⟨cb, 6, none⟩ = some (.slice ai c.ifs.length ci) := by rw [cellAt_of A1.cb]; rfl
  simp only [C.law3_another_gos, T.tv, seval, k5]
  refine eff_append_slN (xs := []) (n := 0) (base := h.size) (m := c.ifs.length) (news := (natV c.ifs)) T.slT_24 rfl rfl Own.nil (hCi.ext (by decide) A1.x) (one_N _) (by omega) (by omega) A1.x.size ?_
  intro v1 m1 own1 fr
  have x := ext_nil fr
  rw [Nat.zero_add, List.nil_append] at own1
  have B := A1.ext x
  have c6 : cellAt m1 ⟨cb, 6, none⟩ = some (.slice ai c.ifs.length ci) := by rw [cellAt_of B.cb]; rfl
  have z6 : frozenAt m1 ⟨cb, 6, none⟩ = false := by simp [frozenAt, B.cb]
  obtain ⟨a1, d1, rfl, _⟩ := own1.slN.2
  simp only [T.tv, seval]
  refine eff_store1_z T.zr_24 rfl rfl rfl rfl rfl c6 z6 ?_
  obtain ⟨A2, f⟩ := B.set 6 (.slice a1 c.ifs.length d1)
  have own1 := B.own own1 (by decide) f
  have own0 := B.own (own0.ext x) (by decide) f
  change AN h _ cb [.int .u16 (c.minor : Int), .int .u16 (c.major : Int), .int .u16 (c.flags : Int), .int .u16 (c.this : Int), .int .u16 (c.super : Int), .slice a0 c.pool.length d0, .slice a1 c.ifs.length d1, .slice af c.fields.length cf, .slice am c.methods.length cm] rb _ at A2
  generalize setAt m1 ⟨cb, 6, none⟩ _ = g2 at *
  clear k5 c6 z6 x fr B f A1
  have k5 : cellAt g2 ⟨cb, 7, none⟩ = some (.slice af c.fields.length cf) := by rw [cellAt_of A2.cb]; rfl
  simp only [C.law3_another_gos, T.tv, seval, k5]
  refine eff_append_slN (xs := []) (n := 0) (base := h.size) (m := c.fields.length) (news := (flatF c.fields)) T.slT_25 rfl rfl Own.nil (hCf.ext (by decide) A2.x) (one_F _) (by omega) (by omega) A2.x.size ?_
  intro v2 m2 own2 fr
  have x := ext_nil fr
  rw [Nat.zero_add, List.nil_append] at own2
  have B := A2.ext x
  have c6 : cellAt m2 ⟨cb, 7, none⟩ = some (.slice af c.fields.length cf) := by rw [cellAt_of B.cb]; rfl
  have z6 : frozenAt m2 ⟨cb, 7, none⟩ = false := by simp [frozenAt, B.cb]
  obtain ⟨a2, d2, rfl, _⟩ := own2.slN.2
  simp only [T.tv, seval]
  refine eff_store1_z T.zr_25 rfl rfl rfl rfl rfl c6 z6 ?_
  obtain ⟨A3, f⟩ := B.set 7 (.slice a2 c.fields.length d2)
  have own2 := B.own own2 (by decide) f
  have own0 := B.own (own0.ext x) (by decide) f
  have own1 := B.own (own1.ext x) (by decide) f
  change AN h _ cb [.int .u16 (c.minor : Int), .int .u16 (c.major : Int), .int .u16 (c.flags : Int), .int .u16 (c.this : Int), .int .u16 (c.super : Int), .slice a0 c.pool.length d0, .slice a1 c.ifs.length d1, .slice a2 c.fields.length d2, .slice am c.methods.length cm] rb _ at A3
  generalize setAt m2 ⟨cb, 7, none⟩ _ = g3 at *
  clear k5 c6 z6 x fr B f A2
  have k5 : cellAt g3 ⟨cb, 8, none⟩ = some (.slice am c.methods.length cm) := by rw [cellAt_of A3.cb]; rfl
  simp only [C.law3_another_gos, T.tv, seval, k5]
  refine eff_append_slN (xs := []) (n := 0) (base := h.size) (m := c.methods.length) (news := rows.flatten) T.slT_26 rfl rfl Own.nil (hrs.ext (by decide) A3.x) hone (by omega) (by omega) A3.x.size ?_
  intro v3 m3 own3 fr
  have x := ext_nil fr
  rw [Nat.zero_add, List.nil_append] at own3
  have B := A3.ext x
  have c6 : cellAt m3 ⟨cb, 8, none⟩ = some (.slice am c.methods.length cm) := by rw [cellAt_of B.cb]; rfl
  have z6 : frozenAt m3 ⟨cb, 8, none⟩ = false := by simp [frozenAt, B.cb]
  obtain ⟨a3, d3, rfl, _⟩ := own3.slN.2
  simp only [T.tv, seval]
  refine eff_store1_z T.zr_26 rfl rfl rfl rfl rfl c6 z6 ?_
  obtain ⟨A4, f⟩ := B.set 8 (.slice a3 c.methods.length d3)
  have own3 := B.own own3 (by decide) f
  have own0 := B.own (own0.ext x) (by decide) f
  have own1 := B.own (own1.ext x) (by decide) f
  have own2 := B.own (own2.ext x) (by decide) f
  change AN h _ cb [.int .u16 (c.minor : Int), .int .u16 (c.major : Int), .int .u16 (c.flags : Int), .int .u16 (c.this : Int), .int .u16 (c.super : Int), .slice a0 c.pool.length d0, .slice a1 c.ifs.length d1, .slice a2 c.fields.length d2, .slice a3 c.methods.length d3] rb _ at A4
  generalize setAt m3 ⟨cb, 8, none⟩ _ = g4 at *
  clear k5 c6 z6 x fr B f A3
  have hM : HM h g4 0 (.slice a3 c.methods.length d3) c.methods rows := ⟨hrl, own3, fun j hj => by
    obtain ⟨vH, q1, q2, _⟩ := hrm j hj
    exact ⟨vH, q1, fun hh => by omega, fun _ => q2⟩⟩
  have k8 : cellAt g4 ⟨cb, 8, none⟩ = some (.slice a3 c.methods.length d3) := by rw [cellAt_of A4.cb]; rfl
  simp only [C.law3_another_gos, T.tv, seval, k8]
  clear hrs hrm hone own3 k8
  refine loop_intro [0, 1, 2, 22, 23] (fun m ρ hx => ∃ (i : Nat) (rows : List (List Value)), m = c.methods.length - i ∧ i ≤ c.methods.length ∧ ρ = [(0, .agg ([.int .u16 (c.minor : Int), .int .u16 (c.major : Int), .int .u16 (c.flags : Int), .int .u16 (c.this : Int), .int .u16 (c.super : Int), .slice ap c.pool.length cp, .slice ai c.ifs.length ci, .slice af c.fields.length cf, .slice am c.methods.length cm] : List Value).toArray), (1, .pointer (some ⟨cb, 0, none⟩)), (2, .pointer (some ⟨rb, 0, none⟩)), (22, .int .i64 c.methods.length), (23, .int .i64 i)] ∧
      AN h hx cb [.int .u16 (c.minor : Int), .int .u16 (c.major : Int), .int .u16 (c.flags : Int), .int .u16 (c.this : Int), .int .u16 (c.super : Int), .slice a0 c.pool.length d0, .slice a1 c.ifs.length d1, .slice a2 c.fields.length d2, .slice a3 c.methods.length d3] rb #[.int .u16 0, .int .u16 0, .int .u16 0, .int .u16 0, .int .u16 0, .slice none 0 0, .slice none 0 0, .slice none 0 0, .slice none 0 0] ∧ Own hx h.size 38 5 (.slice a0 c.pool.length d0) c.pool.length (flatS c.pool) ∧ Own hx h.size 22 1 (.slice a1 c.ifs.length d1) c.ifs.length (natV c.ifs) ∧ Own hx h.size 51 4 (.slice a2 c.fields.length d2) c.fields.length (flatF c.fields) ∧
      HM h hx i (.slice a3 c.methods.length d3) c.methods rows) ?_ ?_
  · simp only [T.tv, seval]
    exact ⟨_, 0, _, rfl, Nat.zero_le _, rfl, A4, own0, own1, own2, hM⟩
  clear A4 own0 own1 own2 hM hrl hall9 hbase
  rintro m ρ hx ⟨i, rows, rfl, hi, rfl, A, own0, own1, own2, hM⟩
  rcases Nat.lt_or_ge i c.methods.length with hlt | hge
  case inl =>
    have hlt' : (i : Int) < c.methods.length := by omega
    have k8 : cellAt hx ⟨cb, 8, none⟩ = some (.slice a3 c.methods.length d3) := by rw [cellAt_of A.cb]; rfl
    have hmw := sumW_get hlt
    obtain ⟨vH, r1, _, r2⟩ := hM.r i hlt
    have hH := r2 (Nat.le_refl _)
    obtain ⟨g, d, hv, hg, hrd⟩ : ∃ g d, Value.slice a3 c.methods.length d3 = .slice (some ⟨g, 0, none⟩) c.methods.length d ∧ h.size ≤ g ∧ Rd hx g 0 rows.flatten := by
      rcases hM.o.rd with ⟨_, h0, _⟩ | ⟨g, d, q1, q2, q3⟩
      · omega
      · exact ⟨g, d, q1, q2, q3⟩
    have hrow := hrd.sub (i * 9) 9
    rw [flatten_row 9 rows i hM.nine (by rw [hM.l]; exact hlt), r1] at hrow
    have k7 : cellAt hx ⟨g, i * 9 + 7, none⟩ = some vH := by simpa using hrow 7 _ rfl
    rw [hv] at k8
    simp only [mW] at hmw
    simp (disch := omega) only [C.law3_another_gos, T.tv, seval, hlt', k8, k7]
    refine eff_append_slN (xs := []) (n := 0) (base := h.size) (m := (c.methods.getD i Mth.zero).code.hs.length) (news := flatH (c.methods.getD i Mth.zero).code.hs) T.slT_39 rfl rfl Own.nil (hH.ext (by decide) A.x) (one_H _) (by omega) (by omega) A.x.size ?_
    intro u h1 ownH fr
    have x := ext_nil fr
    rw [Nat.zero_add, List.nil_append] at ownH
    obtain ⟨g', d', hv', hg', ⟨gcs, gfz, hgb⟩, ⟨w, hw⟩, hz, hN⟩ := hM.next hlt x ownH
    rw [hv] at hv'
    cases hv'
    have B := A.ext x
    have k8' : cellAt h1 ⟨cb, 8, none⟩ = some (.slice (some ⟨g, 0, none⟩) c.methods.length d) := by rw [cellAt_of B.cb, ← hv]; rfl
    obtain ⟨aH, cH, rfl, _⟩ := ownH.slN.2
    simp (disch := omega) only [T.tv, k8', seval]
    refine eff_store1_z T.zr_39 rfl rfl rfl rfl rfl hw hz ?_
    have f1 : Fr (fun k => k = g) h1 (setAt h1 ⟨g, i * 9 + 7, none⟩ (.slice aH (c.methods.getD i Mth.zero).code.hs.length cH)) := Fr.set (S := fun k => k = g) _ _ _ fun _ => rfl
    have hcg : cb ≠ g := by
      intro hh
      subst hh
      have := B.cb
      rw [hgb] at this
      simp only [Option.some.injEq, Obj.cells.injEq] at this
      exact absurd this.2.1 (by decide)
    have hrg : rb ≠ g := by
      intro hh
      subst hh
      have := B.rb
      rw [hgb] at this
      simp only [Option.some.injEq, Obj.cells.injEq] at this
      exact absurd this.2.1 (by decide)
    have keep : ∀ {e : TypeId} {s n : Nat} {v : Value} {ys : List Value}, e ≠ 43 → Own h1 h.size e s v n ys → Own (setAt h1 ⟨g, i * 9 + 7, none⟩ (.slice aH (c.methods.getD i Mth.zero).code.hs.length cH)) h.size e s v n ys := fun ht OO => OO.fr f1 fun k hk hS => by
      subst hS
      exact Own_ne OO hgb ht hk
    simp (disch := omega) only [C.law3_another_gos, T.tv, seval]
    refine ⟨_, by omega, i + 1, rows.set i (MthV (c.methods.getD i Mth.zero) (.slice aH (c.methods.getD i Mth.zero).code.hs.length cH)), rfl, by omega, by simp, ⟨B.c1, B.r1, B.ne, Fr.trans B.x f1 (fun _ _ h => h) (fun k hk hS => by omega), Fr_blk f1 B.cb hcg, Fr_blk f1 B.rb hrg⟩, keep (by decide) (own0.ext x), keep (by decide) (own1.ext x), keep (by decide) (own2.ext x), ?_⟩
    exact hN
  have hlt' : ¬ (i : Int) < c.methods.length := by omega
  have hld := ld_agg T.ag_28 (Rd_block (vs := [.int .u16 (c.minor : Int), .int .u16 (c.major : Int), .int .u16 (c.flags : Int), .int .u16 (c.this : Int), .int .u16 (c.super : Int), .slice a0 c.pool.length d0, .slice a1 c.ifs.length d1, .slice a2 c.fields.length d2, .slice a3 c.methods.length d3]) A.cb) rfl
  simp only [C.law3_another_gos, T.tv, seval, hlt', hld]
  refine eff_storeN_zz T.zr_28 rfl rfl rfl (by simp [Value.cells, oneCell]) A.rb (by decide) (fun j _ _ => by simp) ?_
  intro h9 f9 b9
  have hrd : Rd h9 rb 0 [.int .u16 (c.minor : Int), .int .u16 (c.major : Int), .int .u16 (c.flags : Int), .int .u16 (c.this : Int), .int .u16 (c.super : Int), .slice a0 c.pool.length d0, .slice a1 c.ifs.length d1, .slice a2 c.fields.length d2, .slice a3 c.methods.length d3] := Rd_block (by simpa [Value.cells] using b9)
  have hld9 := ld_agg T.ag_28 hrd rfl
  have keep : ∀ {e : TypeId} {s n : Nat} {v : Value} {ys : List Value}, e ≠ 28 → Own hx h.size e s v n ys → Own h9 h.size e s v n ys := fun ht OO => OO.fr f9 fun k hk hS => by
    subst hS
    exact Own_ne OO A.rb ht hk
  have x9 : Ext h h9 := Fr.trans A.x f9 (fun _ _ h => h) (fun k hk hS => by have := A.r1; omega)
  have o0 := keep (by decide) own0
  have o1 := keep (by decide) own1
  have o2 := keep (by decide) own2
  have o3 := keep (by decide) hM.o
  have hC' : ClsC h9 c (.slice a0 c.pool.length d0) (.slice a1 c.ifs.length d1) (.slice a2 c.fields.length d2) (.slice a3 c.methods.length d3) :=
    ⟨o0.slN, o0.capOk, o1.slN, o1.capOk, o2.slN, o2.capOk, ⟨rows, hM.l, o3.slN, fun j hj => by
      obtain ⟨vH, q1, q2, _⟩ := hM.r j hj
      have q3 := keep (by decide) (q2 (by omega))
      exact ⟨vH, q1, q3.slN, q3.capOk⟩⟩, o3.capOk⟩
  simp only [T.tv, hld9, seval]
  exact ⟨x9, _, _, _, _, rfl, hC'⟩
theorem textW_snoc (l : List Cst) (x : Cst) : textW (l ++ [x]) = textW l + x.text.length := by
  induction l with
  | nil => simp [textW]
  | cons y r ih => simp only [List.cons_append, textW, ih]; omega
theorem sumW_snoc (l : List Mth) (x : Mth) : sumW (l ++ [x]) = sumW l + mW x := by
  induction l with
  | nil => simp [sumW]
  | cons y r ih => simp only [List.cons_append, sumW, ih]; omega
theorem textW_take (l : List Cst) : ∀ i, textW (l.take i) ≤ textW l := by
  induction l with
  | nil => intro i; simp [textW]
  | cons m r ih =>
    intro i
    cases i with
    | zero => simp [textW]
    | succ i => have := ih i; simp only [List.take_succ_cons, textW]; omega
def sizeW (c : Cls) : Nat := c.pool.length + c.ifs.length + c.fields.length + c.methods.length + textW c.pool + sumW c.methods
set_option maxHeartbeats 4000000 in
theorem size_any (c : Cls) (vp vi vf vm : Value) (h : Heap) (hC : ClsC h c vp vi vf vm) (hz : sizeW c ≤ 1099511627776) :
    HCalls Tryz.prog 4 #[.agg (ClsV c vp vi vf vm).toArray] h fun r h' => Ext h h' ∧ r = .int .i64 (sizeW c : Int) := by
  refine C.law3_size_calls (args := [.agg (ClsV c vp vi vf vm).toArray]) rfl ?_
  obtain ⟨_, ap, cp, rfl, _⟩ := id hC.p
  obtain ⟨_, ai, ci, rfl, _⟩ := id hC.i
  obtain ⟨_, af, cf, rfl, _⟩ := id hC.f
  obtain ⟨am, cm, rfl⟩ : ∃ am cm, vm = .slice am c.methods.length cm := by
    obtain ⟨rows, _, ⟨_, a, cc, e, _⟩, _⟩ := hC.m
    exact ⟨a, cc, e⟩
  unfold sizeW at hz ⊢
  simp only [ClsV]
  simp only [C.law3_size_gos, T.tv]
  refine eff_box ?_
  have e1 : Ext h (h.push (.cells ([.int .u16 (c.minor : Int), .int .u16 (c.major : Int), .int .u16 (c.flags : Int), .int .u16 (c.this : Int), .int .u16 (c.super : Int), .slice ap c.pool.length cp, .slice ai c.ifs.length ci, .slice af c.fields.length cf, .slice am c.methods.length cm] : List Value).toArray 28)) := Ext.push _ _
  have g1 : (h.push (.cells ([.int .u16 (c.minor : Int), .int .u16 (c.major : Int), .int .u16 (c.flags : Int), .int .u16 (c.this : Int), .int .u16 (c.super : Int), .slice ap c.pool.length cp, .slice ai c.ifs.length ci, .slice af c.fields.length cf, .slice am c.methods.length cm] : List Value).toArray 28))[h.size]? = some (.cells ([.int .u16 (c.minor : Int), .int .u16 (c.major : Int), .int .u16 (c.flags : Int), .int .u16 (c.this : Int), .int .u16 (c.super : Int), .slice ap c.pool.length cp, .slice ai c.ifs.length ci, .slice af c.fields.length cf, .slice am c.methods.length cm] : List Value).toArray 28 (0, 0)) := by simp
  simp only [C.law3_size_gos, T.tv, seval]
  generalize h.push (.cells ([.int .u16 (c.minor : Int), .int .u16 (c.major : Int), .int .u16 (c.flags : Int), .int .u16 (c.this : Int), .int .u16 (c.super : Int), .slice ap c.pool.length cp, .slice ai c.ifs.length ci, .slice af c.fields.length cf, .slice am c.methods.length cm] : List Value).toArray 28) = h1 at *
  obtain ⟨cb, hcb⟩ : ∃ x, x = h.size := ⟨_, rfl⟩
  rw [← hcb] at g1 ⊢
  have ka5 : cellAt h1 ⟨cb, 5, none⟩ = some (.slice ap c.pool.length cp) := by rw [cellAt_of g1]; rfl
  have ka6 : cellAt h1 ⟨cb, 6, none⟩ = some (.slice ai c.ifs.length ci) := by rw [cellAt_of g1]; rfl
  have ka7 : cellAt h1 ⟨cb, 7, none⟩ = some (.slice af c.fields.length cf) := by rw [cellAt_of g1]; rfl
  have ka8 : cellAt h1 ⟨cb, 8, none⟩ = some (.slice am c.methods.length cm) := by rw [cellAt_of g1]; rfl
  have w1 : IntKind.i64.wrap ((c.pool.length : Int) + (c.ifs.length : Int)) = (c.pool.length : Int) + (c.ifs.length : Int) := wrap_i64 (by omega) (by omega)
  have w2 : IntKind.i64.wrap ((c.pool.length : Int) + (c.ifs.length : Int) + (c.fields.length : Int)) = (c.pool.length : Int) + (c.ifs.length : Int) + (c.fields.length : Int) := wrap_i64 (by omega) (by omega)
  have w3 : IntKind.i64.wrap ((c.pool.length : Int) + (c.ifs.length : Int) + (c.fields.length : Int) + (c.methods.length : Int)) = (c.pool.length : Int) + (c.ifs.length : Int) + (c.fields.length : Int) + (c.methods.length : Int) := wrap_i64 (by omega) (by omega)
  simp only [C.law3_size_gos, T.tv, seval, ka5, ka6, ka7, ka8, w1, w2, w3]
  refine loop_intro [1, 3, 24, 25, 26] (fun m ρ hc => ∃ i : Nat, m = c.pool.length - i ∧ i ≤ c.pool.length ∧ ρ = [(1, .pointer (some ⟨cb, 0, none⟩)), (3, .int .i64 ((c.pool.length + c.ifs.length + c.fields.length + c.methods.length + textW (c.pool.take i) : Nat) : Int)), (24, .slice ap c.pool.length cp), (25, .int .i64 c.pool.length), (26, .int .i64 i)] ∧ Ext h hc ∧ hc[cb]? = some (.cells ([.int .u16 (c.minor : Int), .int .u16 (c.major : Int), .int .u16 (c.flags : Int), .int .u16 (c.this : Int), .int .u16 (c.super : Int), .slice ap c.pool.length cp, .slice ai c.ifs.length ci, .slice af c.fields.length cf, .slice am c.methods.length cm] : List Value).toArray 28 (0, 0))) ?_ ?_
  · simp only [T.tv, seval]
    exact ⟨_, 0, rfl, Nat.zero_le _, by simp [textW], e1, g1⟩
  clear ka5 ka6 ka7 ka8 w1 w2 w3 e1 g1
  rintro m ρ hc ⟨i, rfl, hi, rfl, X, g⟩
  have htl := textW_take c.pool i
  rcases Nat.lt_or_ge i c.pool.length with hlt | hge
  case inl =>
    have hlt' : (i : Int) < c.pool.length := by omega
    obtain ⟨b, o, c', heq, hrd, _⟩ := (hC.p.ext (by decide) X).at hlt
    cases heq
    rw [flatS_at hlt] at hrd
    have hld := ld_agg T.ag_38 hrd rfl
    have hst := textW_snoc (c.pool.take i) (c.pool.getD i Cst.zero)
    rw [← take_snocD Cst.zero hlt] at hst
    have htl2 := textW_take c.pool (i + 1)
    generalize c.pool.getD i Cst.zero = k at *
    simp only [Cst.cells] at hld
    simp (disch := omega) only [C.law3_size_gos, T.tv, seval, hlt', hld]
    refine eff_alloc_z T.zr_38 ?_
    simp only [T.tv, seval]
    refine eff_store_new_z T.zr_38 rfl rfl rfl (by simp [Value.cells, oneCell, str]) rfl ?_
    intro h3 x3 hlt3 hrd3 b3
    have k1 : cellAt h3 ⟨hc.size, 1, none⟩ = some (str k.text) := hrd3 1 _ rfl
    have w1 : IntKind.i64.wrap (((c.pool.length + c.ifs.length + c.fields.length + c.methods.length + textW (c.pool.take i) : Nat) : Int) + (k.text.length : Int)) = ((c.pool.length + c.ifs.length + c.fields.length + c.methods.length + textW (c.pool.take (i + 1)) : Nat) : Int) := by
      rw [wrap_i64 (by omega) (by omega)]; omega
    simp (disch := omega) only [C.law3_size_gos, T.tv, seval, k1, w1]
    exact ⟨_, by omega, i + 1, rfl, by omega, by simp, X.trans x3, Fr_blk x3 g id⟩
  have hlt' : ¬ (i : Int) < c.pool.length := by omega
  rw [List.take_of_length_le hge]
  have ka8 : cellAt hc ⟨cb, 8, none⟩ = some (.slice am c.methods.length cm) := by rw [cellAt_of g]; rfl
  simp only [C.law3_size_gos, T.tv, seval, hlt', ka8]
  refine loop_intro [1, 3, 37, 38, 39] (fun m ρ hc => ∃ i : Nat, m = c.methods.length - i ∧ i ≤ c.methods.length ∧ ρ = [(1, .pointer (some ⟨cb, 0, none⟩)), (3, .int .i64 ((c.pool.length + c.ifs.length + c.fields.length + c.methods.length + textW c.pool + sumW (c.methods.take i) : Nat) : Int)), (37, .slice am c.methods.length cm), (38, .int .i64 c.methods.length), (39, .int .i64 i)] ∧ Ext h hc) ?_ ?_
  · simp only [T.tv, seval]
    exact ⟨_, 0, rfl, Nat.zero_le _, by simp [sumW], X⟩
  clear hge hi hlt' htl i ka8 g X
  rintro m ρ hc ⟨i, rfl, hi, rfl, X⟩
  have htl := sumW_take c.methods i
  rcases Nat.lt_or_ge i c.methods.length with hlt | hge
  case inl =>
    have hlt' : (i : Int) < c.methods.length := by omega
    obtain ⟨b, o, c', vH, heq, hrd, hH, _⟩ := hC.m.at hlt
    cases heq
    have hrd := fun j v hv => cell_ext X (hrd j v hv)
    change Rd hc _ _ _ at hrd
    have hst := sumW_snoc (c.methods.take i) (c.methods.getD i Mth.zero)
    rw [← take_snocD Mth.zero hlt] at hst
    have htl2 := sumW_take c.methods (i + 1)
    generalize c.methods.getD i Mth.zero = k at *
    obtain ⟨f1, f2, f3, fh, fc⟩ := k
    simp only at hH
    simp only [mW] at hst
    obtain ⟨_, aH, cH, rfl, _⟩ := id hH
    have hld := ld_agg T.ag_43 hrd rfl
    simp only [MthV, CdeV, List.cons_append, List.nil_append] at hld
    simp (disch := omega) only [C.law3_size_gos, T.tv, seval, hlt', hld]
    refine eff_alloc_z T.zr_43 ?_
    simp only [T.tv, seval]
    refine eff_store_new_z T.zr_43 rfl rfl rfl (by simp [Value.cells, oneCell, str]) rfl ?_
    intro h3 x3 hlt3 hrd3 b3
    have k6 : cellAt h3 ⟨hc.size, 6, none⟩ = some (str fc.bytes) := hrd3 6 _ rfl
    have k7 : cellAt h3 ⟨hc.size, 7, none⟩ = some (.slice aH fc.hs.length cH) := hrd3 7 _ rfl
    have k8 : cellAt h3 ⟨hc.size, 8, none⟩ = some (str fc.map) := hrd3 8 _ rfl
    have w1 : IntKind.i64.wrap ((fc.bytes.length : Int) + (fc.map.length : Int)) = (fc.bytes.length : Int) + (fc.map.length : Int) := wrap_i64 (by omega) (by omega)
    have w2 : IntKind.i64.wrap ((fc.bytes.length : Int) + (fc.map.length : Int) + (fc.hs.length : Int)) = (fc.bytes.length : Int) + (fc.map.length : Int) + (fc.hs.length : Int) := wrap_i64 (by omega) (by omega)
    have w3 : IntKind.i64.wrap (((c.pool.length + c.ifs.length + c.fields.length + c.methods.length + textW c.pool + sumW (c.methods.take i) : Nat) : Int) + ((fc.bytes.length : Int) + (fc.map.length : Int) + (fc.hs.length : Int))) = ((c.pool.length + c.ifs.length + c.fields.length + c.methods.length + textW c.pool + sumW (c.methods.take (i + 1)) : Nat) : Int) := by
      rw [wrap_i64 (by omega) (by omega)]; omega
    simp (disch := omega) only [C.law3_size_gos, T.tv, seval, k6, k7, k8, w1, w2, w3]
    exact ⟨_, by omega, i + 1, rfl, by omega, by simp, X.trans x3⟩
  have hlt' : ¬ (i : Int) < c.methods.length := by omega
  rw [List.take_of_length_le hge]
  simp only [C.law3_size_gos, T.tv, seval, hlt']
  first | exact X | exact ⟨X, rfl⟩
theorem sumW_each {l : List Mth} : ∀ m ∈ l, mW m ≤ sumW l := by
  induction l with
  | nil => intro m hm; cases hm
  | cons x r ih =>
    intro m hm
    rcases List.mem_cons.1 hm with rfl | hm
    · simp only [sumW]; omega
    · have := ih m hm; simp only [sumW]; omega
theorem textW_each {l : List Cst} : ∀ m ∈ l, m.text.length ≤ textW l := by
  induction l with
  | nil => intro m hm; cases hm
  | cons x r ih =>
    intro m hm
    rcases List.mem_cons.1 hm with rfl | hm
    · simp only [textW]; omega
    · have := ih m hm; simp only [textW]; omega
end Go.Proofs.YtflocjbhcjhenaaGreatDoor
namespace Go.Proofs.YtflocjbhcjhenaaGreatDoor
open Go.Vc
set_option maxRecDepth 100000
theorem cst_eqa (c : Cst) : eqaC Tryz.prog 38 c.cells = true := by
  unfold eqaC
  rw [Tryz.underlying38]
  kernel_rfl
set_option maxHeartbeats 1000000 in
theorem samePool_any (cs : List Cst) (v u : Value) (h : Heap) (hs : SlN h 5 v cs.length (flatS cs)) (ht : SlN h 5 u cs.length (flatS cs)) (hlen : cs.length ≤ 9223372036854775807) :
    HCalls Tryz.prog 17 #[v, u] h fun r h' => h' = h ∧ r = .bool true := by
  refine C.law3_samePool_calls (args := [v, u]) rfl ?_
  have hs' := hs
  have ht' := ht
  obtain ⟨_, a, c, rfl, _⟩ := hs'
  obtain ⟨_, a2, c2, rfl, _⟩ := ht'
  simp only [C.law3_samePool_gos, T.tv, seval]
  refine loop_intro [0, 1, 12, 13] (fun m ρ hc => ∃ i : Nat, m = cs.length - i ∧ i ≤ cs.length ∧ ρ = [(0, .slice a cs.length c), (1, .slice a2 cs.length c2), (12, .int .i64 cs.length), (13, .int .i64 i)] ∧ hc = h) ?_ ?_
  · simp only [T.tv, seval]
    exact ⟨_, 0, rfl, Nat.zero_le _, rfl⟩
  · rintro m ρ hc ⟨i, rfl, hi, rfl, rfl⟩
    rcases Nat.lt_or_ge i cs.length with hlt | hge
    · have hlt' : (i : Int) < cs.length := by omega
      obtain ⟨b, o, c', heq, hrd, _⟩ := hs.at hlt
      obtain ⟨b2, o2, c2', heq2, hrd2, _⟩ := ht.at hlt
      cases heq
      cases heq2
      rw [flatS_at hlt] at hrd hrd2
      generalize cs.getD i Cst.zero = k at *
      have hld := ld_agg T.ag_38 hrd rfl
      have hld2 := ld_agg T.ag_38 hrd2 rfl
      have hq := fun x y => bin_agg_neq (x := x) (y := y) (h := hc) (cst_eqa k)
      simp (disch := omega) only [C.law3_samePool_gos, T.tv, seval, hlt', hld, hld2, hq]
      exact ⟨cs.length - (i + 1), by omega, i + 1, rfl, by omega, by simp⟩
    · have hlt' : ¬ (i : Int) < cs.length := by omega
      simp only [C.law3_samePool_gos, T.tv, seval, hlt']
theorem fld_eqa (x : Fld) : eqaC Tryz.prog 51 x.cells = true := by
  unfold eqaC
  rw [Tryz.underlying51]
  kernel_rfl
theorem hnd_eqa (x : Hnd) : eqaC Tryz.prog 86 x.cells = true := by
  unfold eqaC
  rw [Tryz.underlying86]
  kernel_rfl
set_option maxHeartbeats 4000000 in
theorem sameCode_any (c : Cde) (v1 v2 : Value) (h : Heap) (hs : SlN h 4 v1 c.hs.length (flatH c.hs)) (ht : SlN h 4 v2 c.hs.length (flatH c.hs)) (hlen : c.hs.length ≤ 9223372036854775806) :
    HCalls Tryz.prog 18 #[.agg (CdeV c v1).toArray, .agg (CdeV c v2).toArray] h fun r h' => Ext h h' ∧ r = .bool true := by
  refine C.law3_sameCode_calls (args := [.agg (CdeV c v1).toArray, .agg (CdeV c v2).toArray]) rfl ?_
  obtain ⟨_, a1, c1, rfl, _⟩ := id hs
  obtain ⟨_, a2, c2, rfl, _⟩ := id ht
  simp only [CdeV]
  simp only [C.law3_sameCode_gos, T.tv]
  refine eff_box ?_
  have e1 : Ext h (h.push (.cells ([.int .i64 c.maxS, .int .i64 c.maxL, str c.bytes, .slice a1 c.hs.length c1, str c.map] : List Value).toArray 41)) := Ext.push _ _
  have g1 : (h.push (.cells ([.int .i64 c.maxS, .int .i64 c.maxL, str c.bytes, .slice a1 c.hs.length c1, str c.map] : List Value).toArray 41))[h.size]? = some (.cells ([.int .i64 c.maxS, .int .i64 c.maxL, str c.bytes, .slice a1 c.hs.length c1, str c.map] : List Value).toArray 41 (0, 0)) := by simp
  simp only [T.tv, seval]
  generalize h.push (.cells ([.int .i64 c.maxS, .int .i64 c.maxL, str c.bytes, .slice a1 c.hs.length c1, str c.map] : List Value).toArray 41) = h1 at *
  obtain ⟨x1, hx1⟩ : ∃ x, x = h.size := ⟨_, rfl⟩
  rw [← hx1] at g1 ⊢
  refine eff_box ?_
  have e2 : Ext h1 (h1.push (.cells ([.int .i64 c.maxS, .int .i64 c.maxL, str c.bytes, .slice a2 c.hs.length c2, str c.map] : List Value).toArray 41)) := Ext.push _ _
  have g2 : (h1.push (.cells ([.int .i64 c.maxS, .int .i64 c.maxL, str c.bytes, .slice a2 c.hs.length c2, str c.map] : List Value).toArray 41))[h1.size]? = some (.cells ([.int .i64 c.maxS, .int .i64 c.maxL, str c.bytes, .slice a2 c.hs.length c2, str c.map] : List Value).toArray 41 (0, 0)) := by simp
  have g1' := Fr_blk e2 g1 id
  have X := e1.trans e2
  simp only [C.law3_sameCode_gos, T.tv, seval]
  generalize h1.push (.cells ([.int .i64 c.maxS, .int .i64 c.maxL, str c.bytes, .slice a2 c.hs.length c2, str c.map] : List Value).toArray 41) = h2 at *
  generalize h1.size = x2 at *
  have hs2 := hs.ext (by decide) X
  have ht2 := ht.ext (by decide) X
  have ka0 : cellAt h2 ⟨x1, 0, none⟩ = some (.int .i64 c.maxS) := by rw [cellAt_of g1']; rfl
  have ka1 : cellAt h2 ⟨x1, 1, none⟩ = some (.int .i64 c.maxL) := by rw [cellAt_of g1']; rfl
  have ka2 : cellAt h2 ⟨x1, 2, none⟩ = some (str c.bytes) := by rw [cellAt_of g1']; rfl
  have ka3 : cellAt h2 ⟨x1, 3, none⟩ = some (.slice a1 c.hs.length c1) := by rw [cellAt_of g1']; rfl
  have ka4 : cellAt h2 ⟨x1, 4, none⟩ = some (str c.map) := by rw [cellAt_of g1']; rfl
  have kb0 : cellAt h2 ⟨x2, 0, none⟩ = some (.int .i64 c.maxS) := by rw [cellAt_of g2]; rfl
  have kb1 : cellAt h2 ⟨x2, 1, none⟩ = some (.int .i64 c.maxL) := by rw [cellAt_of g2]; rfl
  have kb2 : cellAt h2 ⟨x2, 2, none⟩ = some (str c.bytes) := by rw [cellAt_of g2]; rfl
  have kb3 : cellAt h2 ⟨x2, 3, none⟩ = some (.slice a2 c.hs.length c2) := by rw [cellAt_of g2]; rfl
  have kb4 : cellAt h2 ⟨x2, 4, none⟩ = some (str c.map) := by rw [cellAt_of g2]; rfl
  simp only [C.law3_sameCode_gos, T.tv, seval, ka0, kb0, ka1, kb1, ka2, kb2, ka3, kb3, ka4, kb4]
  refine loop_intro [2, 3, 43, 44] (fun m ρ hc => ∃ i : Nat, m = c.hs.length - i ∧ i ≤ c.hs.length ∧ ρ = [(2, .pointer (some ⟨x1, 0, none⟩)), (3, .pointer (some ⟨x2, 0, none⟩)), (43, .int .i64 c.hs.length), (44, .int .i64 i)] ∧ hc = h2) ?_ ?_
  · simp only [T.tv, seval]
    exact ⟨_, 0, rfl, Nat.zero_le _, rfl⟩
  rintro m ρ hc ⟨i, rfl, hi, rfl, rfl⟩
  rcases Nat.lt_or_ge i c.hs.length with hlt | hge
  case inr =>
    have hlt' : ¬ (i : Int) < c.hs.length := by omega
    simp only [C.law3_sameCode_gos, T.tv, seval, hlt']
    first | exact X | exact ⟨X, rfl⟩
  have hlt' : (i : Int) < c.hs.length := by omega
  obtain ⟨b, o, c', heq, hrd, _⟩ := hs2.at hlt
  obtain ⟨b2, o2, c2', heq2, hrd2, _⟩ := ht2.at hlt
  rw [flatH_at hlt] at hrd hrd2
  rw [heq] at ka3
  rw [heq2] at kb3
  generalize c.hs.getD i Hnd.zero = k at *
  have hld := ld_agg T.ag_86 hrd rfl
  have hld2 := ld_agg T.ag_86 hrd2 rfl
  have hq := fun x y => bin_agg_neq (x := x) (y := y) (h := hc) (hnd_eqa k)
  simp (disch := omega) only [C.law3_sameCode_gos, T.tv, seval, hlt', ka3, kb3, hld, hld2, hq]
  exact ⟨_, by omega, i + 1, rfl, by omega, by simp⟩
structure SC (h hc : Heap) (x1 : Nat) (cs : List Value) (x2 : Nat) (ds : List Value) : Prop where
  x : Ext h hc
  c1 : hc[x1]? = some (.cells cs.toArray 28 (0, 0))
  c2 : hc[x2]? = some (.cells ds.toArray 28 (0, 0))
theorem SC.ext {h hc h' : Heap} {x1 x2 : Nat} {cs ds : List Value} (D : SC h hc x1 cs x2 ds) (x : Ext hc h') : SC h h' x1 cs x2 ds := ⟨D.x.trans x, Fr_blk x D.c1 id, Fr_blk x D.c2 id⟩
set_option maxHeartbeats 8000000 in
theorem sameClass_any (c : Cls) (vp vi vf vm up ui uf um : Value) (h : Heap) (hC : ClsC h c vp vi vf vm) (hD : ClsC h c up ui uf um) (hpl : c.pool.length ≤ 1073741824) (hil : c.ifs.length ≤ 1073741824) (hfl : c.fields.length ≤ 1073741824) (hmll : c.methods.length ≤ 1073741824)
    (hml : ∀ m ∈ c.methods, m.code.hs.length ≤ 1073741824) :
    HCalls Tryz.prog 8 #[.agg (ClsV c vp vi vf vm).toArray, .agg (ClsV c up ui uf um).toArray] h fun r h' => Ext h h' ∧ r = .bool true := by
  refine C.law3_sameClass_calls (args := [.agg (ClsV c vp vi vf vm).toArray, .agg (ClsV c up ui uf um).toArray]) rfl ?_
  obtain ⟨_, ap, cp, rfl, _⟩ := id hC.p
  obtain ⟨_, ai, ci, rfl, _⟩ := id hC.i
  obtain ⟨_, af, cf, rfl, _⟩ := id hC.f
  obtain ⟨am, cm, rfl⟩ : ∃ am cm, vm = .slice am c.methods.length cm := by
    obtain ⟨rows, _, ⟨_, a, cc, e, _⟩, _⟩ := hC.m
    exact ⟨a, cc, e⟩
  obtain ⟨_, bp, dp, rfl, _⟩ := id hD.p
  obtain ⟨_, bi, di, rfl, _⟩ := id hD.i
  obtain ⟨_, bf, df, rfl, _⟩ := id hD.f
  obtain ⟨bm, dm, rfl⟩ : ∃ am cm, um = .slice am c.methods.length cm := by
    obtain ⟨rows, _, ⟨_, a, cc, e, _⟩, _⟩ := hD.m
    exact ⟨a, cc, e⟩
  simp only [ClsV]
  simp only [C.law3_sameClass_gos, T.tv]
  refine eff_box ?_
  have e1 : Ext h (h.push (.cells ([.int .u16 (c.minor : Int), .int .u16 (c.major : Int), .int .u16 (c.flags : Int), .int .u16 (c.this : Int), .int .u16 (c.super : Int), .slice ap c.pool.length cp, .slice ai c.ifs.length ci, .slice af c.fields.length cf, .slice am c.methods.length cm] : List Value).toArray 28)) := Ext.push _ _
  have g1 : (h.push (.cells ([.int .u16 (c.minor : Int), .int .u16 (c.major : Int), .int .u16 (c.flags : Int), .int .u16 (c.this : Int), .int .u16 (c.super : Int), .slice ap c.pool.length cp, .slice ai c.ifs.length ci, .slice af c.fields.length cf, .slice am c.methods.length cm] : List Value).toArray 28))[h.size]? = some (.cells ([.int .u16 (c.minor : Int), .int .u16 (c.major : Int), .int .u16 (c.flags : Int), .int .u16 (c.this : Int), .int .u16 (c.super : Int), .slice ap c.pool.length cp, .slice ai c.ifs.length ci, .slice af c.fields.length cf, .slice am c.methods.length cm] : List Value).toArray 28 (0, 0)) := by simp
  simp only [T.tv, seval]
  generalize h.push (.cells ([.int .u16 (c.minor : Int), .int .u16 (c.major : Int), .int .u16 (c.flags : Int), .int .u16 (c.this : Int), .int .u16 (c.super : Int), .slice ap c.pool.length cp, .slice ai c.ifs.length ci, .slice af c.fields.length cf, .slice am c.methods.length cm] : List Value).toArray 28) = h1 at *
  obtain ⟨x1, hx1⟩ : ∃ x, x = h.size := ⟨_, rfl⟩
  rw [← hx1] at g1 ⊢
  refine eff_box ?_
  have e2 : Ext h1 (h1.push (.cells ([.int .u16 (c.minor : Int), .int .u16 (c.major : Int), .int .u16 (c.flags : Int), .int .u16 (c.this : Int), .int .u16 (c.super : Int), .slice bp c.pool.length dp, .slice bi c.ifs.length di, .slice bf c.fields.length df, .slice bm c.methods.length dm] : List Value).toArray 28)) := Ext.push _ _
  have g2 : (h1.push (.cells ([.int .u16 (c.minor : Int), .int .u16 (c.major : Int), .int .u16 (c.flags : Int), .int .u16 (c.this : Int), .int .u16 (c.super : Int), .slice bp c.pool.length dp, .slice bi c.ifs.length di, .slice bf c.fields.length df, .slice bm c.methods.length dm] : List Value).toArray 28))[h1.size]? = some (.cells ([.int .u16 (c.minor : Int), .int .u16 (c.major : Int), .int .u16 (c.flags : Int), .int .u16 (c.this : Int), .int .u16 (c.super : Int), .slice bp c.pool.length dp, .slice bi c.ifs.length di, .slice bf c.fields.length df, .slice bm c.methods.length dm] : List Value).toArray 28 (0, 0)) := by simp
  have D : SC h (h1.push (.cells ([.int .u16 (c.minor : Int), .int .u16 (c.major : Int), .int .u16 (c.flags : Int), .int .u16 (c.this : Int), .int .u16 (c.super : Int), .slice bp c.pool.length dp, .slice bi c.ifs.length di, .slice bf c.fields.length df, .slice bm c.methods.length dm] : List Value).toArray 28)) x1 [.int .u16 (c.minor : Int), .int .u16 (c.major : Int), .int .u16 (c.flags : Int), .int .u16 (c.this : Int), .int .u16 (c.super : Int), .slice ap c.pool.length cp, .slice ai c.ifs.length ci, .slice af c.fields.length cf, .slice am c.methods.length cm] h1.size [.int .u16 (c.minor : Int), .int .u16 (c.major : Int), .int .u16 (c.flags : Int), .int .u16 (c.this : Int), .int .u16 (c.super : Int), .slice bp c.pool.length dp, .slice bi c.ifs.length di, .slice bf c.fields.length df, .slice bm c.methods.length dm] := ⟨e1.trans e2, Fr_blk e2 g1 id, g2⟩
  simp only [C.law3_sameClass_gos, T.tv, seval]
  generalize h1.push (.cells ([.int .u16 (c.minor : Int), .int .u16 (c.major : Int), .int .u16 (c.flags : Int), .int .u16 (c.this : Int), .int .u16 (c.super : Int), .slice bp c.pool.length dp, .slice bi c.ifs.length di, .slice bf c.fields.length df, .slice bm c.methods.length dm] : List Value).toArray 28) = h2 at *
  generalize h1.size = x2 at *
  clear e1 e2 g1 g2
  have ka0 : cellAt h2 ⟨x1, 0, none⟩ = some (.int .u16 (c.minor : Int)) := by rw [cellAt_of D.c1]; rfl
  have kb0 : cellAt h2 ⟨x2, 0, none⟩ = some (.int .u16 (c.minor : Int)) := by rw [cellAt_of D.c2]; rfl
  have ka1 : cellAt h2 ⟨x1, 1, none⟩ = some (.int .u16 (c.major : Int)) := by rw [cellAt_of D.c1]; rfl
  have kb1 : cellAt h2 ⟨x2, 1, none⟩ = some (.int .u16 (c.major : Int)) := by rw [cellAt_of D.c2]; rfl
  have ka2 : cellAt h2 ⟨x1, 2, none⟩ = some (.int .u16 (c.flags : Int)) := by rw [cellAt_of D.c1]; rfl
  have kb2 : cellAt h2 ⟨x2, 2, none⟩ = some (.int .u16 (c.flags : Int)) := by rw [cellAt_of D.c2]; rfl
  have ka3 : cellAt h2 ⟨x1, 3, none⟩ = some (.int .u16 (c.this : Int)) := by rw [cellAt_of D.c1]; rfl
  have kb3 : cellAt h2 ⟨x2, 3, none⟩ = some (.int .u16 (c.this : Int)) := by rw [cellAt_of D.c2]; rfl
  have ka4 : cellAt h2 ⟨x1, 4, none⟩ = some (.int .u16 (c.super : Int)) := by rw [cellAt_of D.c1]; rfl
  have kb4 : cellAt h2 ⟨x2, 4, none⟩ = some (.int .u16 (c.super : Int)) := by rw [cellAt_of D.c2]; rfl
  have ka5 : cellAt h2 ⟨x1, 5, none⟩ = some (.slice ap c.pool.length cp) := by rw [cellAt_of D.c1]; rfl
  have kb5 : cellAt h2 ⟨x2, 5, none⟩ = some (.slice bp c.pool.length dp) := by rw [cellAt_of D.c2]; rfl
  have ka6 : cellAt h2 ⟨x1, 6, none⟩ = some (.slice ai c.ifs.length ci) := by rw [cellAt_of D.c1]; rfl
  have kb6 : cellAt h2 ⟨x2, 6, none⟩ = some (.slice bi c.ifs.length di) := by rw [cellAt_of D.c2]; rfl
  have ka7 : cellAt h2 ⟨x1, 7, none⟩ = some (.slice af c.fields.length cf) := by rw [cellAt_of D.c1]; rfl
  have kb7 : cellAt h2 ⟨x2, 7, none⟩ = some (.slice bf c.fields.length df) := by rw [cellAt_of D.c2]; rfl
  have ka8 : cellAt h2 ⟨x1, 8, none⟩ = some (.slice am c.methods.length cm) := by rw [cellAt_of D.c1]; rfl
  have kb8 : cellAt h2 ⟨x2, 8, none⟩ = some (.slice bm c.methods.length dm) := by rw [cellAt_of D.c2]; rfl
  simp only [C.law3_sameClass_gos, T.tv, seval, ka0, kb0, ka1, kb1, ka2, kb2, ka3, kb3, ka4, kb4, ka5, kb5, ka6, kb6, ka7, kb7, ka8, kb8]
  refine eff_callF rfl ((samePool_any c.pool _ _ h2 (hC.p.ext (by decide) D.x) (hD.p.ext (by decide) D.x) (by omega)).mono ?_)
  rintro _ h3 ⟨rfl, rfl⟩
  simp only [C.law3_sameClass_gos, T.tv, seval, ka6]
  clear ka0 kb0 ka1 kb1 ka2 kb2 ka3 kb3 ka4 kb4 ka5 kb5 ka6 kb6 ka7 kb7 ka8 kb8
  refine loop_intro [2, 3, 87, 88] (fun m ρ hc => ∃ i : Nat, m = c.ifs.length - i ∧ i ≤ c.ifs.length ∧ ρ = [(2, .pointer (some ⟨x1, 0, none⟩)), (3, .pointer (some ⟨x2, 0, none⟩)), (87, .int .i64 c.ifs.length), (88, .int .i64 i)] ∧ SC h hc x1 [.int .u16 (c.minor : Int), .int .u16 (c.major : Int), .int .u16 (c.flags : Int), .int .u16 (c.this : Int), .int .u16 (c.super : Int), .slice ap c.pool.length cp, .slice ai c.ifs.length ci, .slice af c.fields.length cf, .slice am c.methods.length cm] x2 [.int .u16 (c.minor : Int), .int .u16 (c.major : Int), .int .u16 (c.flags : Int), .int .u16 (c.this : Int), .int .u16 (c.super : Int), .slice bp c.pool.length dp, .slice bi c.ifs.length di, .slice bf c.fields.length df, .slice bm c.methods.length dm]) ?_ ?_
  · simp only [T.tv, seval]
    exact ⟨_, 0, rfl, Nat.zero_le _, rfl, D⟩
  rintro m ρ hc ⟨i, rfl, hi, rfl, D⟩
  have hkeep := D
  rcases Nat.lt_or_ge i c.ifs.length with hlt | hge
  case' inr =>
    have hlt' : ¬ (i : Int) < c.ifs.length := by omega
  case inl =>
    have hlt' : (i : Int) < c.ifs.length := by omega
    have ka6 : cellAt hc ⟨x1, 6, none⟩ = some (.slice ai c.ifs.length ci) := by rw [cellAt_of D.c1]; rfl
    have kb6 : cellAt hc ⟨x2, 6, none⟩ = some (.slice bi c.ifs.length di) := by rw [cellAt_of D.c2]; rfl
    obtain ⟨b, o, c', heq, hrd, _⟩ := (hC.i.ext (by decide) D.x).at hlt
    obtain ⟨b2, o2, c2', heq2, hrd2, _⟩ := (hD.i.ext (by decide) D.x).at hlt
    rw [natV_at hlt] at hrd hrd2
    rw [heq] at ka6
    rw [heq2] at kb6
    generalize c.ifs.getD i 0 = k at *
    have q1 : cellAt hc ⟨b, o + i, none⟩ = some (.int .u16 (k : Int)) := by simpa using hrd 0 _ rfl
    have q2 : cellAt hc ⟨b2, o2 + i, none⟩ = some (.int .u16 (k : Int)) := by simpa using hrd2 0 _ rfl
    simp (disch := omega) only [C.law3_sameClass_gos, T.tv, seval, hlt', ka6, kb6, q1, q2]
    exact ⟨_, by omega, i + 1, rfl, by omega, by simp, hkeep⟩
  have ka7 : cellAt hc ⟨x1, 7, none⟩ = some (.slice af c.fields.length cf) := by rw [cellAt_of D.c1]; rfl
  have kb7 : cellAt hc ⟨x2, 7, none⟩ = some (.slice bf c.fields.length df) := by rw [cellAt_of D.c2]; rfl
  simp only [C.law3_sameClass_gos, T.tv, seval, hlt', ka7]
  clear hlt' ka7 kb7
  refine loop_intro [2, 3, 105, 106] (fun m ρ hc => ∃ i : Nat, m = c.fields.length - i ∧ i ≤ c.fields.length ∧ ρ = [(2, .pointer (some ⟨x1, 0, none⟩)), (3, .pointer (some ⟨x2, 0, none⟩)), (105, .int .i64 c.fields.length), (106, .int .i64 i)] ∧ SC h hc x1 [.int .u16 (c.minor : Int), .int .u16 (c.major : Int), .int .u16 (c.flags : Int), .int .u16 (c.this : Int), .int .u16 (c.super : Int), .slice ap c.pool.length cp, .slice ai c.ifs.length ci, .slice af c.fields.length cf, .slice am c.methods.length cm] x2 [.int .u16 (c.minor : Int), .int .u16 (c.major : Int), .int .u16 (c.flags : Int), .int .u16 (c.this : Int), .int .u16 (c.super : Int), .slice bp c.pool.length dp, .slice bi c.ifs.length di, .slice bf c.fields.length df, .slice bm c.methods.length dm]) ?_ ?_
  · simp only [T.tv, seval]
    exact ⟨_, 0, rfl, Nat.zero_le _, rfl, D⟩
  rintro m ρ hc ⟨i, rfl, hi, rfl, D⟩
  have hkeep := D
  rcases Nat.lt_or_ge i c.fields.length with hlt | hge
  case' inr =>
    have hlt' : ¬ (i : Int) < c.fields.length := by omega
  case inl =>
    have hlt' : (i : Int) < c.fields.length := by omega
    have ka7 : cellAt hc ⟨x1, 7, none⟩ = some (.slice af c.fields.length cf) := by rw [cellAt_of D.c1]; rfl
    have kb7 : cellAt hc ⟨x2, 7, none⟩ = some (.slice bf c.fields.length df) := by rw [cellAt_of D.c2]; rfl
    obtain ⟨b, o, c', heq, hrd, _⟩ := (hC.f.ext (by decide) D.x).at hlt
    obtain ⟨b2, o2, c2', heq2, hrd2, _⟩ := (hD.f.ext (by decide) D.x).at hlt
    rw [flatF_at hlt] at hrd hrd2
    rw [heq] at ka7
    rw [heq2] at kb7
    generalize c.fields.getD i Fld.zero = k at *
    have hld := ld_agg T.ag_51 hrd rfl
    have hld2 := ld_agg T.ag_51 hrd2 rfl
    have hq := fun x y => bin_agg_neq (x := x) (y := y) (h := hc) (fld_eqa k)
    simp (disch := omega) only [C.law3_sameClass_gos, T.tv, seval, hlt', ka7, kb7, hld, hld2, hq]
    exact ⟨_, by omega, i + 1, rfl, by omega, by simp, hkeep⟩
  have ka8 : cellAt hc ⟨x1, 8, none⟩ = some (.slice am c.methods.length cm) := by rw [cellAt_of D.c1]; rfl
  have kb8 : cellAt hc ⟨x2, 8, none⟩ = some (.slice bm c.methods.length dm) := by rw [cellAt_of D.c2]; rfl
  simp only [C.law3_sameClass_gos, T.tv, seval, hlt', ka8]
  clear hlt' ka8 kb8
  refine loop_intro [2, 3, 123, 124] (fun m ρ hc => ∃ i : Nat, m = c.methods.length - i ∧ i ≤ c.methods.length ∧ ρ = [(2, .pointer (some ⟨x1, 0, none⟩)), (3, .pointer (some ⟨x2, 0, none⟩)), (123, .int .i64 c.methods.length), (124, .int .i64 i)] ∧ SC h hc x1 [.int .u16 (c.minor : Int), .int .u16 (c.major : Int), .int .u16 (c.flags : Int), .int .u16 (c.this : Int), .int .u16 (c.super : Int), .slice ap c.pool.length cp, .slice ai c.ifs.length ci, .slice af c.fields.length cf, .slice am c.methods.length cm] x2 [.int .u16 (c.minor : Int), .int .u16 (c.major : Int), .int .u16 (c.flags : Int), .int .u16 (c.this : Int), .int .u16 (c.super : Int), .slice bp c.pool.length dp, .slice bi c.ifs.length di, .slice bf c.fields.length df, .slice bm c.methods.length dm]) ?_ ?_
  · simp only [T.tv, seval]
    exact ⟨_, 0, rfl, Nat.zero_le _, rfl, D⟩
  rintro m ρ hc ⟨i, rfl, hi, rfl, D⟩
  have hkeep := D
  rcases Nat.lt_or_ge i c.methods.length with hlt | hge
  case' inr =>
    have hlt' : ¬ (i : Int) < c.methods.length := by omega
  case inl =>
    have hlt' : (i : Int) < c.methods.length := by omega
    have ka8 : cellAt hc ⟨x1, 8, none⟩ = some (.slice am c.methods.length cm) := by rw [cellAt_of D.c1]; rfl
    have kb8 : cellAt hc ⟨x2, 8, none⟩ = some (.slice bm c.methods.length dm) := by rw [cellAt_of D.c2]; rfl
    obtain ⟨b, o, c', vH, heq, hrd, hH, _⟩ := hC.m.at hlt
    obtain ⟨b2, o2, c2', vH2, heq2, hrd2, hH2, _⟩ := hD.m.at hlt
    have hmw := hml _ (show c.methods.getD i Mth.zero ∈ c.methods by simp [hlt])
    have hrd := fun j v hv => cell_ext D.x (hrd j v hv)
    change Rd hc _ _ _ at hrd
    have hrd2 := fun j v hv => cell_ext D.x (hrd2 j v hv)
    change Rd hc _ _ _ at hrd2
    rw [heq] at ka8
    rw [heq2] at kb8
    generalize c.methods.getD i Mth.zero = k at *
    obtain ⟨f1, f2, f3, fh, fc⟩ := k
    simp only at hH hH2 hmw
    obtain ⟨_, aH, cH, rfl, _⟩ := id hH
    obtain ⟨_, aH2, cH2, rfl, _⟩ := id hH2
    have hld := ld_agg T.ag_43 hrd rfl
    have hld2 := ld_agg T.ag_43 hrd2 rfl
    simp only [MthV, CdeV, List.cons_append, List.nil_append] at hld hld2
    simp (disch := omega) only [C.law3_sameClass_gos, T.tv, seval, hlt', ka8, hld]
    refine eff_alloc_z T.zr_43 ?_
    simp only [T.tv, seval]
    refine eff_store_new_z T.zr_43 rfl rfl rfl (by simp [Value.cells, oneCell, str]) rfl ?_
    intro h3 y3 hlt3 hrd3 b3
    change h3[hc.size]? = some (.cells (MthV ⟨f1, f2, f3, fh, fc⟩ (.slice aH fc.hs.length cH)).toArray 43 (0, 0)) at b3
    have D3 := D.ext y3
    have kb8' : cellAt h3 ⟨x2, 8, none⟩ = some (.slice (some ⟨b2, o2, none⟩) c.methods.length c2') := cell_ext y3 kb8
    have hrd2' : Rd h3 b2 (o2 + i * 9) (MthV ⟨f1, f2, f3, fh, fc⟩ (.slice aH2 fc.hs.length cH2)) := fun j v hv => cell_ext y3 (hrd2 j v hv)
    have hld2' := ld_agg T.ag_43 hrd2' rfl
    simp only [MthV, CdeV, List.cons_append, List.nil_append] at hld2'
    clear hrd hld hrd2 hld2 hrd3 hlt3
    generalize hc.size = q at *
    simp (disch := omega) only [C.law3_sameClass_gos, T.tv, seval, kb8', hld2']
    refine eff_alloc_z T.zr_43 ?_
    simp only [T.tv, seval]
    refine eff_store_new_z T.zr_43 rfl rfl rfl (by simp [Value.cells, oneCell, str]) rfl ?_
    intro h4 y4 hlt4 hrd4 b4
    change h4[h3.size]? = some (.cells (MthV ⟨f1, f2, f3, fh, fc⟩ (.slice aH2 fc.hs.length cH2)).toArray 43 (0, 0)) at b4
    have D4 := D3.ext y4
    have b3' := Fr_blk y4 b3 id
    clear hrd2' hld2' hrd4 hlt4 kb8' b3
    generalize h3.size = q2 at *
    have na0 : cellAt h4 ⟨q, 0, none⟩ = some (.int .u16 (f1 : Int)) := by rw [cellAt_of b3']; rfl
    have na1 : cellAt h4 ⟨q, 1, none⟩ = some (.int .u16 (f2 : Int)) := by rw [cellAt_of b3']; rfl
    have na2 : cellAt h4 ⟨q, 2, none⟩ = some (.int .u16 (f3 : Int)) := by rw [cellAt_of b3']; rfl
    have na3 : cellAt h4 ⟨q, 3, none⟩ = some (.bool fh) := by rw [cellAt_of b3']; rfl
    have nb0 : cellAt h4 ⟨q2, 0, none⟩ = some (.int .u16 (f1 : Int)) := by rw [cellAt_of b4]; rfl
    have nb1 : cellAt h4 ⟨q2, 1, none⟩ = some (.int .u16 (f2 : Int)) := by rw [cellAt_of b4]; rfl
    have nb2 : cellAt h4 ⟨q2, 2, none⟩ = some (.int .u16 (f3 : Int)) := by rw [cellAt_of b4]; rfl
    have nb3 : cellAt h4 ⟨q2, 3, none⟩ = some (.bool fh) := by rw [cellAt_of b4]; rfl
    have rc1 : Rd h4 q 4 (CdeV fc (.slice aH fc.hs.length cH)) := (Rd_block (vs := MthV ⟨f1, f2, f3, fh, fc⟩ (.slice aH fc.hs.length cH)) b3').sub 4 5
    have rc2 : Rd h4 q2 4 (CdeV fc (.slice aH2 fc.hs.length cH2)) := (Rd_block (vs := MthV ⟨f1, f2, f3, fh, fc⟩ (.slice aH2 fc.hs.length cH2)) b4).sub 4 5
    have lc1 := ld_agg T.ag_41 rc1 rfl
    have lc2 := ld_agg T.ag_41 rc2 rfl
    simp only [C.law3_sameClass_gos, T.tv, seval, na0, na1, na2, na3, nb0, nb1, nb2, nb3, lc1, lc2]
    refine eff_callF rfl ((sameCode_any fc _ _ h4 (hH.ext (by decide) D4.x) (hH2.ext (by decide) D4.x) (by omega)).mono ?_)
    rintro _ h5 ⟨x5, rfl⟩
    simp (disch := omega) only [C.law3_sameClass_gos, T.tv, seval]
    exact ⟨_, by omega, i + 1, rfl, by omega, by simp, D4.ext x5⟩
  simp only [C.law3_sameClass_gos, T.tv, seval, hlt']
  first | exact D.x | exact ⟨D.x, rfl⟩
end Go.Proofs.YtflocjbhcjhenaaGreatDoor

/- The reader of classes under way: its blocks, and what they hold. -/
import Derived.Test.YtohkbpnblkkdgaaLR4
import Derived.Test.YtohkbpnblkkdgaaLV
namespace Go.Proofs.Ytohkbpnblkkdgaa
open Go.Vc
set_option maxRecDepth 100000
set_option linter.unusedSimpArgs false
set_option linter.unusedVariables false

theorem own_ty {h : Heap} {base : Nat} {e : TypeId} {size n : Nat} {v : Value} {xs : List Value} (H : Own h base e size v n xs) : ∀ k, v.ownBlock = some k → base ≤ k ∧ ∃ cs fz, h[k]? = some (.cells cs e fz) := by
  intro k hk
  rcases H.2 with ⟨rfl, _⟩ | ⟨g, cap, cur, fz, rfl, hb, hg, _⟩
  · simp [Value.ownBlock] at hk
  · simp [Value.ownBlock] at hk
    subst hk
    exact ⟨hb, _, _, hg⟩
theorem own_keep {S : Nat → Prop} {h h' : Heap} {base : Nat} {e e' : TypeId} {size n : Nat} {v : Value} {xs : List Value} (H : Own h base e' size v n xs) (f : Fr S h h') (hS : ∀ k, k < h.size → S k → ∃ cs fz, h[k]? = some (.cells cs e fz)) (hne : e' ≠ e) : Own h' base e' size v n xs := by
  refine H.fr f fun k hk hSk => ?_
  have hlt := (H.lt k hk).2
  obtain ⟨cs, fz, hb⟩ := hS k hlt hSk
  exact Own_ne H hb hne hk
/-- The methods read, each with its own list of handlers. -/
structure HO (base : Nat) (hc : Heap) (v : Value) (ms : List Mth) (rows : List (List Value)) : Prop where
  l : rows.length = ms.length
  o : Own hc base 81 9 v ms.length rows.flatten
  r : ∀ j, j < ms.length → ∃ vH, rows.getD j [] = MthV (ms.getD j Mth.zero) vH ∧ Own hc base 132 4 vH (ms.getD j Mth.zero).code.hs.length (flatH (ms.getD j Mth.zero).code.hs)
theorem HO.one {base : Nat} {hc : Heap} {v : Value} {ms : List Mth} {rows : List (List Value)} (H : HO base hc v ms rows) : ∀ u ∈ rows.flatten, oneCell u = true := by
  intro u hu
  obtain ⟨r, hr, hur⟩ := List.mem_flatten.1 hu
  obtain ⟨j, hj, rfl⟩ := List.mem_iff_getElem.1 hr
  obtain ⟨vH, h1, h2⟩ := H.r j (by rw [← H.l]; exact hj)
  have h3 : rows[j] = MthV (ms.getD j Mth.zero) vH := by rw [← h1]; simp [hj]
  rw [h3] at hur
  obtain ⟨a, c, rfl, _⟩ := h2.slN.2
  exact one_M rfl u hur
theorem HO.cls {base : Nat} {hc : Heap} {v : Value} {ms : List Mth} {rows : List (List Value)} (H : HO base hc v ms rows) : MthsC hc v ms :=
  ⟨rows, H.l, H.o.slN, fun j hj => by
    obtain ⟨vH, h1, h2⟩ := H.r j hj
    exact ⟨vH, h1, h2.slN, h2.capOk⟩⟩
theorem HO.keep {S : Nat → Prop} {h h' : Heap} {base : Nat} {e : TypeId} {v : Value} {ms : List Mth} {rows : List (List Value)} (H : HO base h v ms rows) (f : Fr S h h') (hS : ∀ k, k < h.size → S k → ∃ cs fz, h[k]? = some (.cells cs e fz)) (h1 : 81 ≠ e) (h2 : 132 ≠ e) : HO base h' v ms rows :=
  ⟨H.l, own_keep H.o f hS h1, fun j hj => by
    obtain ⟨vH, a, b⟩ := H.r j hj
    exact ⟨vH, a, own_keep b f hS h2⟩⟩
theorem HO.snoc {h h' : Heap} {base : Nat} {v v' : Value} {ms : List Mth} {rows : List (List Value)} (H : HO base h v ms rows) {m : Mth} {vH : Value} (O : Own h base 132 4 vH m.code.hs.length (flatH m.code.hs))
    (f : Fr (fun k => v.ownBlock = some k) h h') (O' : Own h' base 81 9 v' (ms.length + 1) (rows.flatten ++ MthV m vH)) : HO base h' v' (ms ++ [m]) (rows ++ [MthV m vH]) := by
  have hS : ∀ k, k < h.size → v.ownBlock = some k → ∃ cs fz, h[k]? = some (.cells cs 81 fz) := fun k _ hk => (own_ty H.o k hk).2
  refine ⟨by simp [H.l], Own_cast O' (by simp) (by simp), fun j hj => ?_⟩
  rw [List.length_append, List.length_singleton] at hj
  by_cases hjm : j = ms.length
  · subst hjm
    refine ⟨vH, ?_, ?_⟩
    · rw [← H.l]; simp; simp [H.l]
    · have : (ms ++ [m]).getD ms.length Mth.zero = m := by simp
      rw [this]
      exact own_keep O f hS (by decide)
  · have hlt : j < ms.length := by omega
    obtain ⟨w, a, b⟩ := H.r j hlt
    have hlr : j < rows.length := by rw [H.l]; exact hlt
    have e1 : (ms ++ [m]).getD j Mth.zero = ms.getD j Mth.zero := by simp [List.getD_eq_getElem?_getD, List.getElem?_append_left hlt]
    have e2 : (rows ++ [MthV m vH]).getD j [] = rows.getD j [] := by simp [List.getD_eq_getElem?_getD, List.getElem?_append_left hlr]
    rw [e1, e2]
    exact ⟨w, a, own_keep b f hS (by decide)⟩
abbrev clsZ : Array Value := #[.int .u16 0, .int .u16 0, .int .u16 0, .int .u16 0, .int .u16 0, .slice none 0 0, .slice none 0 0, .slice none 0 0, .slice none 0 0]
/-- A class reader under way. -/
structure RD (h0 : Heap) (g gr rb : Nat) (l : List UInt8) (rc : List Value) (p : List Cst) (is : List Nat) (fs : List Fld) (ms : List Mth) (vp vi vf vm : Value) (t : RS) (hx : Heap) : Prop where
  b : RdC hx g gr rc
  r : Rdr hx gr l t
  p : Own hx h0.size 76 5 vp p.length (flatS p)
  i : Own hx h0.size 38 1 vi is.length (natV is)
  f : Own hx h0.size 89 4 vf fs.length (flatF fs)
  m : ∃ rows, HO h0.size hx vm ms rows
  x : Ext h0 hx
  z : hx[rb]? = some (.cells clsZ 43 (0, 0))
  g0 : h0.size ≤ g
  g1 : h0.size ≤ gr
  g2 : h0.size ≤ rb
  ne : g ≠ gr
section
variable {h0 hx hy : Heap} {g gr rb : Nat} {l : List UInt8} {rc : List Value} {p : List Cst} {is : List Nat} {fs : List Fld} {ms : List Mth} {vp vi vf vm : Value} {t u : RS}
theorem cell_ne {h : Heap} {a b : Nat} {cs ds : Array Value} {e e' : TypeId} {fz fy : Nat × Nat} (h1 : h[a]? = some (.cells cs e fz)) (h2 : h[b]? = some (.cells ds e' fy)) (hne : e ≠ e') : a ≠ b := by
  intro hh; subst hh
  rw [h1] at h2
  simp only [Option.some.injEq, Obj.cells.injEq] at h2
  exact hne h2.2.1
theorem blk_keep {S : Nat → Prop} {h h' : Heap} {a : Nat} {cs : Array Value} {e e' : TypeId} {fz : Nat × Nat} (hb : h[a]? = some (.cells cs e' fz)) (f : Fr S h h') (hS : ∀ k, k < h.size → S k → ∃ cs fz, h[k]? = some (.cells cs e fz)) (hne : e' ≠ e) : h'[a]? = some (.cells cs e' fz) := by
  refine Fr_blk f hb fun hSk => ?_
  obtain ⟨cs', fz', hb'⟩ := hS a (Array.getElem?_eq_some_iff.1 hb).1 hSk
  rw [hb] at hb'
  simp only [Option.some.injEq, Obj.cells.injEq] at hb'
  exact hne hb'.2.1
theorem RD.extS {S : Nat → Prop} (D : RD h0 g gr rb l rc p is fs ms vp vi vf vm t hx) (f : Fr S hx hy) (hS0 : ∀ k, k < hx.size → S k → h0.size ≤ k) : Ext h0 hy :=
  Fr.trans D.x f (fun _ _ h => h) (fun k hk hSk => by have := hS0 k (by have := D.x.size; omega) hSk; omega)
theorem RD.frR (D : RD h0 g gr rb l rc p is fs ms vp vi vf vm t hx) (f : FrR gr hx hy) (r : Rdr hy gr l u) : RD h0 g gr rb l rc p is fs ms vp vi vf vm u hy := by
  have hS : ∀ k, k < hx.size → k = gr → ∃ cs fz, hx[k]? = some (.cells cs 120 fz) := fun k _ hk => ⟨_, _, hk ▸ D.r.1⟩
  obtain ⟨rows, hm⟩ := D.m
  exact ⟨blk_keep D.b f hS (by decide), r, own_keep D.p f hS (by decide), own_keep D.i f hS (by decide), own_keep D.f f hS (by decide), ⟨rows, hm.keep f hS (by decide) (by decide)⟩,
    D.extS f (fun k _ hk => by have := D.g1; omega), blk_keep D.z f hS (by decide), D.g0, D.g1, D.g2, D.ne⟩
theorem RD.cr (D : RD h0 g gr rb l rc p is fs ms vp vi vf vm t hx) (h5 : rc[5]? = some vp) : CR hx g gr rc p vp :=
  ⟨D.b, D.p.slN, h5, Own_ne D.p D.r.1 (by decide), D.ne⟩
theorem RD.cell (D : RD h0 g gr rb l rc p is fs ms vp vi vf vm t hx) (k : Nat) : cellAt hx ⟨g, k + 1, none⟩ = rc[k]? := by
  rw [cellAt_of D.b]; simp
theorem RD.set (D : RD h0 g gr rb l rc p is fs ms vp vi vf vm t hx) (k : Nat) (v : Value) : RD h0 g gr rb l (rc.set k v) p is fs ms vp vi vf vm t (setAt hx ⟨g, k + 1, none⟩ v) := by
  have f : Fr (fun b => b = g) hx (setAt hx ⟨g, k + 1, none⟩ v) := Fr.set (S := fun b => b = g) _ _ _ fun _ => rfl
  have hS : ∀ b, b < hx.size → b = g → ∃ cs fz, hx[b]? = some (.cells cs 102 fz) := fun b _ hk => ⟨_, _, hk ▸ D.b⟩
  have b1 := setAt_get (o := k + 1) D.b v
  obtain ⟨rows, hm⟩ := D.m
  exact ⟨by unfold RdC; rw [b1]; simp, D.r.fr f (fun h => D.ne h.symm), own_keep D.p f hS (by decide), own_keep D.i f hS (by decide), own_keep D.f f hS (by decide), ⟨rows, hm.keep f hS (by decide) (by decide)⟩,
    D.extS f (fun b _ hk => by have := D.g0; omega), blk_keep D.z f hS (by decide), D.g0, D.g1, D.g2, D.ne⟩
theorem RD.frozen (D : RD h0 g gr rb l rc p is fs ms vp vi vf vm t hx) (k : Nat) : frozenAt hx ⟨g, k, none⟩ = false := by simp [frozenAt, show hx[g]? = _ from D.b]
theorem RD.appI (D : RD h0 g gr rb l rc p is fs ms vp vi vf vm t hx) (f : Fr (fun k => vi.ownBlock = some k) hx hy) {is' : List Nat} {vi' : Value} (O : Own hy h0.size 38 1 vi' is'.length (natV is')) : RD h0 g gr rb l rc p is' fs ms vp vi' vf vm t hy := by
  have hS : ∀ k, k < hx.size → vi.ownBlock = some k → ∃ cs fz, hx[k]? = some (.cells cs 38 fz) := fun k _ hk => (own_ty D.i k hk).2
  obtain ⟨rows, hm⟩ := D.m
  exact ⟨blk_keep D.b f hS (by decide), ⟨blk_keep D.r.1 f hS (by decide), D.r.2⟩, own_keep D.p f hS (by decide), O, own_keep D.f f hS (by decide), ⟨rows, hm.keep f hS (by decide) (by decide)⟩,
    D.extS f (fun k _ hk => (own_ty D.i k hk).1), blk_keep D.z f hS (by decide), D.g0, D.g1, D.g2, D.ne⟩
theorem RD.appF (D : RD h0 g gr rb l rc p is fs ms vp vi vf vm t hx) (f : Fr (fun k => vf.ownBlock = some k) hx hy) {fs' : List Fld} {vf' : Value} (O : Own hy h0.size 89 4 vf' fs'.length (flatF fs')) : RD h0 g gr rb l rc p is fs' ms vp vi vf' vm t hy := by
  have hS : ∀ k, k < hx.size → vf.ownBlock = some k → ∃ cs fz, hx[k]? = some (.cells cs 89 fz) := fun k _ hk => (own_ty D.f k hk).2
  obtain ⟨rows, hm⟩ := D.m
  exact ⟨blk_keep D.b f hS (by decide), ⟨blk_keep D.r.1 f hS (by decide), D.r.2⟩, own_keep D.p f hS (by decide), own_keep D.i f hS (by decide), O, ⟨rows, hm.keep f hS (by decide) (by decide)⟩,
    D.extS f (fun k _ hk => (own_ty D.f k hk).1), blk_keep D.z f hS (by decide), D.g0, D.g1, D.g2, D.ne⟩
theorem RD.appM (D : RD h0 g gr rb l rc p is fs ms vp vi vf vm t hx) {rows : List (List Value)} (hm : HO h0.size hx vm ms rows) (f : Fr (fun k => vm.ownBlock = some k) hx hy) {ms' : List Mth} {vm' : Value} {rows' : List (List Value)} (O : HO h0.size hy vm' ms' rows') : RD h0 g gr rb l rc p is fs ms' vp vi vf vm' t hy := by
  have hS : ∀ k, k < hx.size → vm.ownBlock = some k → ∃ cs fz, hx[k]? = some (.cells cs 81 fz) := fun k _ hk => (own_ty hm.o k hk).2
  exact ⟨blk_keep D.b f hS (by decide), ⟨blk_keep D.r.1 f hS (by decide), D.r.2⟩, own_keep D.p f hS (by decide), own_keep D.i f hS (by decide), own_keep D.f f hS (by decide), ⟨_, O⟩,
    D.extS f (fun k _ hk => (own_ty hm.o k hk).1), blk_keep D.z f hS (by decide), D.g0, D.g1, D.g2, D.ne⟩
end
theorem ClsC.sl {h : Heap} {c : Cls} {vp vi vf vm : Value} (H : ClsC h c vp vi vf vm) : ∃ a1 c1 a2 c2 a3 c3 a4 c4, vp = .slice a1 c.pool.length c1 ∧ vi = .slice a2 c.ifs.length c2 ∧ vf = .slice a3 c.fields.length c3 ∧ vm = .slice a4 c.methods.length c4 := by
  obtain ⟨_, a1, c1, e1, _⟩ := H.p
  obtain ⟨_, a2, c2, e2, _⟩ := H.i
  obtain ⟨_, a3, c3, e3, _⟩ := H.f
  obtain ⟨_, _, ⟨_, a4, c4, e4, _⟩, _⟩ := H.m
  exact ⟨a1, c1, a2, c2, a3, c3, a4, c4, e1, e2, e3, e4⟩
/-- What reading a class gives. -/
def clsPost (h0 : Heap) (X : Cls × Nat × Nat) (v : Value) (h' : Heap) : Prop :=
  Ext h0 h' ∧ ∃ vp vi vf vm, v = .tuple #[.agg (ClsV X.1 vp vi vf vm).toArray, .int .i64 (X.2.1 : Int), .int .i64 (X.2.2 : Int)] ∧ ClsC h' X.1 vp vi vf vm
/-- The rest, from each of its stages. -/
def endR (l : List UInt8) (c : Cls) (z : RS) : Cls × Nat × Nat := finC (c, if z.p < l.length then failS 2 z.p z else z)
def tailA (p : List Cst) (l : List UInt8) (c : Cls) (s : RS) : Cls × Nat × Nat := endR l c (attrsR p l noT (numS l 2 s).1 () (numS l 2 s).2).2
def tailM (p : List Cst) (l : List UInt8) (mi ma fl th su : Nat) (is : List Nat) (fs : List Fld) (s : RS) : Cls × Nat × Nat :=
  tailA p l ⟨mi, ma, fl, th, su, p, is, fs, (loopS (methodR p l) (numS l 2 s).1 [] (numS l 2 s).2).1⟩ (loopS (methodR p l) (numS l 2 s).1 [] (numS l 2 s).2).2
def tailF (p : List Cst) (l : List UInt8) (mi ma fl th su : Nat) (is : List Nat) (s : RS) : Cls × Nat × Nat :=
  tailM p l mi ma fl th su is (loopS (fieldR p l) (numS l 2 s).1 [] (numS l 2 s).2).1 (loopS (fieldR p l) (numS l 2 s).1 [] (numS l 2 s).2).2
def tailI (p : List Cst) (l : List UInt8) (mi ma fl th su : Nat) (s : RS) : Cls × Nat × Nat :=
  tailF p l mi ma fl th su (loopS (numS l 2) (numS l 2 s).1 [] (numS l 2 s).2).1 (loopS (numS l 2) (numS l 2 s).1 [] (numS l 2 s).2).2
theorem tailI_rest (p : List Cst) (l : List UInt8) (mi ma : Nat) (s : RS) :
    tailI p l mi ma (numS l 2 s).1 (numS l 2 (numS l 2 s).2).1 (numS l 2 (numS l 2 (numS l 2 s).2).2).1 (numS l 2 (numS l 2 (numS l 2 s).2).2).2 = finC (restR p l mi ma s) := rfl
end Go.Proofs.Ytohkbpnblkkdgaa

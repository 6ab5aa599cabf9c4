/- A copy of a class. -/
import Derived.Test.YtohkbpnblkkdgaaL7
import Derived.Test.YtohkbpnblkkdgaaCk
namespace Go.Proofs.Ytohkbpnblkkdgaa
open Go.Vc
set_option maxRecDepth 100000
set_option linter.unusedSimpArgs false
set_option linter.unusedVariables false

theorem nameRK {p : List Cst} {name : List UInt8} (h0 : hitN name (p.getD 0 Cst.zero) = false) : nameK p name = nameR p name := by
  unfold nameK nameR
  cases p with
  | nil => rfl
  | cons x r =>
    have h1 : hitN name x = false := h0
    rw [List.findIdx?_cons, h1]
    simp
theorem clsP_err (K : Look) (c : Cls) (hw : (writeS c.pool).2.1 ≠ 0) : (clsP K c).2 = thenE (verE c) (writeS c.pool).2.1 := by
  have h1 := (allP_idx [c.minor, c.major]).1
  have h2 : ∀ x, thenE (writeS c.pool).2.1 x = (writeS c.pool).2.1 := fun x => by unfold thenE; rw [if_neg hw]
  unfold clsP
  simp only [seqP, h1, thenE_z, h2]
theorem outP_KR (c : Cls) : outP (clsP (nameK c.pool) c) = outP (clsP (nameR c.pool) c) := by
  by_cases hw : (writeS c.pool).2.1 = 0
  · have hK : nameK c.pool = nameR c.pool := by
      funext name
      apply nameRK
      unfold writeS at hw
      split at hw
      · simp at hw
      · rename_i hl
        cases hp : c.pool with
        | nil => rw [hp] at hl; simp at hl
        | cons x r =>
          rw [hp, wrS] at hw
          split at hw
          · rename_i he; simp only at hw; exact absurd hw he
          · rename_i he
            have : x.tag = 0 := by
              apply Classical.byContradiction
              intro ht
              apply he
              unfold errS
              simp [ht]
            simp [hitN, this]
    rw [hK]
  · have h1 := clsP_err (nameK c.pool) c hw
    have h2 := clsP_err (nameR c.pool) c hw
    have hne : thenE (verE c) (writeS c.pool).2.1 ≠ 0 := by
      unfold thenE
      split
      · exact hw
      · assumption
    rw [outP_eq, outP_eq, h1, h2, if_neg hne, if_neg hne]
theorem flatten_set (n : Nat) (u : Value) (k : Nat) (hk : k < n) : ∀ (rows : List (List Value)) (i : Nat), (∀ r ∈ rows, r.length = n) → i < rows.length → rows.flatten.set (i * n + k) u = (rows.set i ((rows.getD i []).set k u)).flatten := by
  intro rows
  induction rows with
  | nil => intro i _ hi; simp at hi
  | cons r rows ih =>
    intro i hall hi
    have hr := hall r (by simp)
    cases i with
    | zero =>
      simp only [List.flatten_cons, Nat.zero_mul, Nat.zero_add, List.set_cons_zero, List.getD_cons_zero]
      rw [List.set_append, if_pos (by omega)]
    | succ i =>
      have := ih i (fun r hr' => hall r (by simp [hr'])) (by simpa using hi)
      simp only [List.flatten_cons, List.set_cons_succ, List.getD_cons_succ]
      rw [List.set_append, if_neg (by rw [hr, Nat.add_mul]; omega), show (i + 1) * n + k - r.length = i * n + k by rw [hr, Nat.add_mul]; omega, this]
theorem Own.cell {h : Heap} {base : Nat} {e : TypeId} {size n : Nat} {v : Value} {ys : List Value} (H : Own h base e size v n ys) {p : Nat} (hp : p < n * size) : ∃ g c, v = .slice (some ⟨g, 0, none⟩) n c ∧ base ≤ g ∧ (∃ cs fz, h[g]? = some (.cells cs e fz)) ∧ cellAt h ⟨g, p, none⟩ = some (ys.getD p undef) ∧ frozenAt h ⟨g, p, none⟩ = false ∧
    ∀ z, Own (setAt h ⟨g, p, none⟩ z) base e size (.slice (some ⟨g, 0, none⟩) n c) n (ys.set p z) := by
  obtain ⟨hl, h0⟩ := H
  rcases h0 with ⟨_, rfl⟩ | ⟨g, cap, cur, fz, rfl, hb, hg, hfz, hnc, hcm, hcs, htk⟩
  · omega
  · have hps : p < cap * size := Nat.lt_of_lt_of_le hp (Nat.mul_le_mul_right _ hnc)
    refine ⟨g, cap, rfl, hb, ⟨cur, fz, hg⟩, ?_, ?_, ?_⟩
    · rw [cellAt_of hg]
      have h1 : cur.toList[p]? = ys[p]? := by
        rw [← htk, List.getElem?_take, if_pos hp]
      have h2 : p < ys.length := by omega
      have h3 : cur[p]? = cur.toList[p]? := by simp
      rw [h3, h1]
      simp [h2]
    · have := hfz p hps
      simp only [frozenAt, hg]
      simp only [Bool.and_eq_false_iff, decide_eq_false_iff_not]
      omega
    · intro z
      refine ⟨by simpa using hl, .inr ⟨g, cap, cur.setIfInBounds p z, fz, rfl, hb, setAt_get hg z, hfz, hnc, hcm, by simpa using hcs, ?_⟩⟩
      rw [Array.toList_setIfInBounds, List.take_set, htk]
theorem one_flat {α : Type} (f : α → List Value) (hf : ∀ x, ∀ u ∈ f x, oneCell u = true) (l : List α) : ∀ u ∈ l.flatMap f, oneCell u = true := by
  intro u hu
  obtain ⟨x, _, hx⟩ := List.mem_flatMap.1 hu
  exact hf x u hx
theorem one_S (l : List Cst) : ∀ u ∈ flatS l, oneCell u = true := one_flat Cst.cells (fun x u hu => by
  simp only [Cst.cells, List.mem_cons, List.not_mem_nil, or_false] at hu
  rcases hu with rfl | rfl | rfl | rfl | rfl <;> rfl) l
theorem one_F (l : List Fld) : ∀ u ∈ flatF l, oneCell u = true := one_flat Fld.cells (fun x u hu => by
  simp only [Fld.cells, List.mem_cons, List.not_mem_nil, or_false] at hu
  rcases hu with rfl | rfl | rfl | rfl <;> rfl) l
theorem one_H (l : List Hnd) : ∀ u ∈ flatH l, oneCell u = true := one_flat Hnd.cells (fun x u hu => by
  simp only [Hnd.cells, List.mem_cons, List.not_mem_nil, or_false] at hu
  rcases hu with rfl | rfl | rfl | rfl <;> rfl) l
theorem one_N (l : List Nat) : ∀ u ∈ natV l, oneCell u = true := by
  intro u hu
  obtain ⟨x, _, rfl⟩ := List.mem_map.1 hu
  rfl
theorem one_M {m : Mth} {vH : Value} (hv : oneCell vH = true) : ∀ u ∈ MthV m vH, oneCell u = true := by
  intro u hu
  simp only [MthV, CdeV, List.cons_append, List.nil_append, List.mem_cons, List.not_mem_nil, or_false] at hu
  rcases hu with rfl | rfl | rfl | rfl | rfl | rfl | rfl | rfl | rfl <;> first | rfl | exact hv
/-- The class that is copied, and the place of the answer. -/
structure AN (h hc : Heap) (cb : Nat) (cs : List Value) (rb : Nat) (zs : Array Value) : Prop where
  c1 : h.size ≤ cb
  r1 : h.size ≤ rb
  ne : cb ≠ rb
  x : Ext h hc
  cb : hc[cb]? = some (.cells cs.toArray 43 (0, 0))
  rb : hc[rb]? = some (.cells zs 43 (0, 0))
section
variable {h hc : Heap} {cb rb : Nat} {cs : List Value} {zs : Array Value}
theorem AN.ext {h' : Heap} (A : AN h hc cb cs rb zs) (x : Ext hc h') : AN h h' cb cs rb zs := ⟨A.c1, A.r1, A.ne, A.x.trans x, Fr_blk x A.cb id, Fr_blk x A.rb id⟩
theorem AN.set (A : AN h hc cb cs rb zs) (i : Nat) (v : Value) : AN h (setAt hc ⟨cb, i, none⟩ v) cb (cs.set i v) rb zs ∧ Fr (fun k => k = cb) hc (setAt hc ⟨cb, i, none⟩ v) := by
  have f1 : Fr (fun k => k = cb) hc (setAt hc ⟨cb, i, none⟩ v) := Fr.set (S := fun k => k = cb) _ _ _ fun _ => rfl
  have b1 := setAt_get (o := i) A.cb v
  refine ⟨⟨A.c1, A.r1, A.ne, Fr.trans A.x f1 (fun _ _ h => h) (fun k hk hS => by have := A.c1; omega), ?_, Fr_blk f1 A.rb (fun hh => A.ne hh.symm)⟩, f1⟩
  rw [b1]; simp
theorem AN.own {v : Value} {n size : Nat} {e : TypeId} {xs : List Value} {h' : Heap} (A : AN h hc cb cs rb zs) (O : Own hc h.size e size v n xs) (ht : e ≠ 43) (f : Fr (fun k => k = cb) hc h') : Own h' h.size e size v n xs :=
  O.fr f fun k hk hS => by
    subst hS
    exact Own_ne O A.cb ht hk
theorem ext_nil {h h' : Heap} (f : Fr (fun k => (Value.slice none 0 0).ownBlock = some k) h h') : Ext h h' := Fr.trans f (Ext.refl _) (fun _ _ hh => by cases hh) (fun _ _ hh => hh.elim)
end
/-- The methods, of which some have their own list of handlers. -/
structure HM (h hc : Heap) (i : Nat) (v : Value) (ms : List Mth) (rows : List (List Value)) : Prop where
  l : rows.length = ms.length
  o : Own hc h.size 81 9 v ms.length rows.flatten
  r : ∀ j, j < ms.length → ∃ vH, rows.getD j [] = MthV (ms.getD j Mth.zero) vH ∧ (j < i → Own hc h.size 132 4 vH (ms.getD j Mth.zero).code.hs.length (flatH (ms.getD j Mth.zero).code.hs)) ∧
    (i ≤ j → SlN h 4 vH (ms.getD j Mth.zero).code.hs.length (flatH (ms.getD j Mth.zero).code.hs))
theorem HM.ext {h hc h' : Heap} {i : Nat} {v : Value} {ms : List Mth} {rows : List (List Value)} (H : HM h hc i v ms rows) (x : Ext hc h') : HM h h' i v ms rows :=
  ⟨H.l, H.o.ext x, fun j hj => by
    obtain ⟨vH, h1, h2, h3⟩ := H.r j hj
    exact ⟨vH, h1, fun hh => (h2 hh).ext x, h3⟩⟩
theorem HM.nine {h hc : Heap} {i : Nat} {v : Value} {ms : List Mth} {rows : List (List Value)} (H : HM h hc i v ms rows) : ∀ r ∈ rows, r.length = 9 := by
  intro r hr
  obtain ⟨j, hj, rfl⟩ := List.mem_iff_getElem.1 hr
  obtain ⟨vH, h1, _⟩ := H.r j (by rw [← H.l]; exact hj)
  simp [hj] at h1
  rw [h1]; rfl
theorem HM.next {h hc h1 : Heap} {i : Nat} {v : Value} {ms : List Mth} {rows : List (List Value)} (H : HM h hc i v ms rows) (hi : i < ms.length) (x : Ext hc h1) {u : Value} (O : Own h1 h.size 132 4 u (ms.getD i Mth.zero).code.hs.length (flatH (ms.getD i Mth.zero).code.hs)) :
    ∃ g c, v = .slice (some ⟨g, 0, none⟩) ms.length c ∧ h.size ≤ g ∧ (∃ cs fz, h1[g]? = some (.cells cs 81 fz)) ∧ (∃ w, cellAt h1 ⟨g, i * 9 + 7, none⟩ = some w) ∧ frozenAt h1 ⟨g, i * 9 + 7, none⟩ = false ∧
      HM h (setAt h1 ⟨g, i * 9 + 7, none⟩ u) (i + 1) v ms (rows.set i (MthV (ms.getD i Mth.zero) u)) := by
  have H1 := H.ext x
  obtain ⟨g, c, rfl, hg, ⟨cs, fz, hb⟩, hc1, hfz, hset⟩ := Own.cell H1.o (p := i * 9 + 7) (by omega)
  refine ⟨g, c, rfl, hg, ⟨cs, fz, hb⟩, ⟨_, hc1⟩, hfz, ?_⟩
  have f1 : Fr (fun k => k = g) h1 (setAt h1 ⟨g, i * 9 + 7, none⟩ u) := Fr.set (S := fun k => k = g) _ _ _ fun _ => rfl
  have hfl := flatten_set 9 u 7 (by decide) rows i H1.nine (by rw [H1.l]; exact hi)
  obtain ⟨vH, e1, _, _⟩ := H1.r i hi
  rw [e1] at hfl
  have hs := hset u
  rw [hfl] at hs
  refine ⟨by rw [List.length_set]; exact H1.l, hs, fun j hj => ?_⟩
  have keep : ∀ {w : Value} {m : Nat} {ys : List Value}, Own h1 h.size 132 4 w m ys → Own (setAt h1 ⟨g, i * 9 + 7, none⟩ u) h.size 132 4 w m ys := fun OO => OO.fr f1 fun k hk hS => by
    subst hS
    exact Own_ne OO hb (by decide) hk
  by_cases hji : j = i
  · subst hji
    refine ⟨u, ?_, fun _ => keep O, fun hh => by omega⟩
    have : j < rows.length := by rw [H1.l]; exact hj
    simp [this]
  · obtain ⟨vJ, j1, j2, j3⟩ := H1.r j hj
    refine ⟨vJ, ?_, fun hh => keep (j2 (by omega)), fun hh => j3 (by omega)⟩
    rw [← j1]
    simp only [List.getD_eq_getElem?_getD]
    rw [List.getElem?_set_ne (fun hh => hji hh.symm)]

set_option maxHeartbeats 8000000 in
theorem another_any (c : Cls) (vp vi vf vm : Value) (h : Heap) (hC : ClsC h c vp vi vf vm) (hpl : c.pool.length ≤ 1048576) (hil : c.ifs.length ≤ 1048576) (hfl : c.fields.length ≤ 1048576)
    (hml : c.methods.length ≤ 1048576) (hsw : sumW c.methods ≤ 1048576) :
    HCalls Try.prog 15 #[.agg (ClsV c vp vi vf vm).toArray] h fun r h' => Ext h h' ∧ ∃ vp' vi' vf' vm', r = .agg (ClsV c vp' vi' vf' vm').toArray ∧ ClsC h' c vp' vi' vf' vm' := by
  refine C.law3_another_calls (args := [.agg (ClsV c vp vi vf vm).toArray]) rfl ?_
  have hCp := hC.p
  have hCi := hC.i
  have hCf := hC.f
  obtain ⟨rows, hrl, hrs, hrm⟩ := hC.m
  obtain ⟨_, ap, cp, rfl, _⟩ := id hC.p
  obtain ⟨_, ai, ci, rfl, _⟩ := id hC.i
  obtain ⟨_, af, cf, rfl, _⟩ := id hC.f
  obtain ⟨_, am, cm, rfl, _⟩ := id hrs
  simp only [ClsV]
  simp (disch := first | omega | assumption) only [C.law3_another_gos, vs, Go.Vc.vk, T.ts, ↓reduceIte, Nat.reduceEqDiff, reduceCtorEq, Nat.reduceLeDiff, Nat.reducePow, Int.reducePow, Int.reduceToNat, Nat.reduceAdd]
  refine eff_box ?_
  have e1 : Ext h (h.push (.cells ([.int .u16 (c.minor : Int), .int .u16 (c.major : Int), .int .u16 (c.flags : Int), .int .u16 (c.this : Int), .int .u16 (c.super : Int), .slice ap c.pool.length cp, .slice ai c.ifs.length ci, .slice af c.fields.length cf, .slice am c.methods.length cm] : List Value).toArray 43)) := Ext.push _ _
  have cb0 : (h.push (.cells ([.int .u16 (c.minor : Int), .int .u16 (c.major : Int), .int .u16 (c.flags : Int), .int .u16 (c.this : Int), .int .u16 (c.super : Int), .slice ap c.pool.length cp, .slice ai c.ifs.length ci, .slice af c.fields.length cf, .slice am c.methods.length cm] : List Value).toArray 43))[h.size]? = some (.cells ([.int .u16 (c.minor : Int), .int .u16 (c.major : Int), .int .u16 (c.flags : Int), .int .u16 (c.this : Int), .int .u16 (c.super : Int), .slice ap c.pool.length cp, .slice ai c.ifs.length ci, .slice af c.fields.length cf, .slice am c.methods.length cm] : List Value).toArray 43 (0, 0)) := by simp
  have hs1 : (h.push (.cells ([.int .u16 (c.minor : Int), .int .u16 (c.major : Int), .int .u16 (c.flags : Int), .int .u16 (c.this : Int), .int .u16 (c.super : Int), .slice ap c.pool.length cp, .slice ai c.ifs.length ci, .slice af c.fields.length cf, .slice am c.methods.length cm] : List Value).toArray 43)).size = h.size + 1 := by simp
  simp (disch := first | omega | assumption) only [C.law3_another_gos, vs, Go.Vc.vk, T.ts, ↓reduceIte, Nat.reduceEqDiff, reduceCtorEq, Nat.reduceLeDiff, Nat.reducePow, Int.reducePow, Int.reduceToNat, Nat.reduceAdd]
  generalize h.push (.cells ([.int .u16 (c.minor : Int), .int .u16 (c.major : Int), .int .u16 (c.flags : Int), .int .u16 (c.this : Int), .int .u16 (c.super : Int), .slice ap c.pool.length cp, .slice ai c.ifs.length ci, .slice af c.fields.length cf, .slice am c.methods.length cm] : List Value).toArray 43) = h1 at *
  refine eff_alloc_z T.zr_43 ?_
  simp (disch := first | omega | assumption) only [C.law3_another_gos, vs, Go.Vc.vk, T.ts, ↓reduceIte, Nat.reduceEqDiff, reduceCtorEq, Nat.reduceLeDiff, Nat.reducePow, Int.reducePow, Int.reduceToNat, Nat.reduceAdd]
  have e2 : Ext h1 (h1.push (.cells #[.int .u16 0, .int .u16 0, .int .u16 0, .int .u16 0, .int .u16 0, .slice none 0 0, .slice none 0 0, .slice none 0 0, .slice none 0 0] 43)) := Ext.push _ _
  have A0 : AN h (h1.push (.cells #[.int .u16 0, .int .u16 0, .int .u16 0, .int .u16 0, .int .u16 0, .slice none 0 0, .slice none 0 0, .slice none 0 0, .slice none 0 0] 43)) h.size [.int .u16 (c.minor : Int), .int .u16 (c.major : Int), .int .u16 (c.flags : Int), .int .u16 (c.this : Int), .int .u16 (c.super : Int), .slice ap c.pool.length cp, .slice ai c.ifs.length ci, .slice af c.fields.length cf, .slice am c.methods.length cm] h1.size #[.int .u16 0, .int .u16 0, .int .u16 0, .int .u16 0, .int .u16 0, .slice none 0 0, .slice none 0 0, .slice none 0 0, .slice none 0 0] :=
    ⟨Nat.le_refl _, by omega, by omega, e1.trans e2, Fr_blk e2 cb0 id, by simp⟩
  generalize h1.push (.cells #[.int .u16 0, .int .u16 0, .int .u16 0, .int .u16 0, .int .u16 0, .slice none 0 0, .slice none 0 0, .slice none 0 0, .slice none 0 0] 43) = g0 at *
  generalize h1.size = rb at *
  obtain ⟨cb, hcb⟩ : ∃ x, x = h.size := ⟨_, rfl⟩
  have A0' := A0
  rw [← hcb] at A0' ⊢
  clear A0 e1 e2 cb0 hs1
  have A0 := A0'
  clear A0'
  have hbase := A0.x.size
  have hall9 : ∀ r ∈ rows, r.length = 9 := by
    intro r hr
    obtain ⟨j, hj, rfl⟩ := List.mem_iff_getElem.1 hr
    have := (hrm j (by omega)).len
    simpa [hj] using this
  have hone : ∀ u ∈ rows.flatten, oneCell u = true := by
    intro u hu
    obtain ⟨r, hr, hur⟩ := List.mem_flatten.1 hu
    obtain ⟨j, hj, rfl⟩ := List.mem_iff_getElem.1 hr
    obtain ⟨vH, e1, e2, _⟩ := hrm j (by omega)
    obtain ⟨_, a, cc, rfl, _⟩ := e2
    simp [hj] at e1
    rw [e1] at hur
    exact one_M rfl u hur
  have k5 : cellAt g0 ⟨cb, 5, none⟩ = some (.slice ap c.pool.length cp) := by rw [cellAt_of A0.cb]; rfl
  simp (disch := first | omega | assumption) only [C.law3_another_gos, vs, Go.Vc.vk, T.ts, ↓reduceIte, Nat.reduceEqDiff, reduceCtorEq, Nat.reduceLeDiff, Nat.reducePow, Int.reducePow, Int.reduceToNat, Nat.reduceAdd, k5]
  refine eff_append_slN (xs := []) (n := 0) (base := h.size) (m := c.pool.length) (news := (flatS c.pool)) T.slT_22 rfl rfl Own.nil (hCp.ext (by decide) A0.x) (one_S _) (by omega) (by omega) A0.x.size ?_
  intro v0 m0 own0 fr
  have x := ext_nil fr
  rw [Nat.zero_add, List.nil_append] at own0
  have B := A0.ext x
  have c6 : cellAt m0 ⟨cb, 5, none⟩ = some (.slice ap c.pool.length cp) := by rw [cellAt_of B.cb]; rfl
  have z6 : frozenAt m0 ⟨cb, 5, none⟩ = false := by simp [frozenAt, B.cb]
  obtain ⟨a0, d0, rfl, _⟩ := own0.slN.2
  simp (disch := first | omega | assumption) only [C.law3_another_gos, vs, Go.Vc.vk, T.ts, ↓reduceIte, Nat.reduceEqDiff, reduceCtorEq, Nat.reduceLeDiff, Nat.reducePow, Int.reducePow, Int.reduceToNat, Nat.reduceAdd]
  refine eff_store1_z T.zr_22 rfl rfl rfl rfl rfl c6 z6 ?_
  obtain ⟨A1, f⟩ := B.set 5 (.slice a0 c.pool.length d0)
  have own0 := B.own own0 (by decide) f
  change AN h _ cb [.int .u16 (c.minor : Int), .int .u16 (c.major : Int), .int .u16 (c.flags : Int), .int .u16 (c.this : Int), .int .u16 (c.super : Int), .slice a0 c.pool.length d0, .slice ai c.ifs.length ci, .slice af c.fields.length cf, .slice am c.methods.length cm] rb _ at A1
  generalize setAt m0 ⟨cb, 5, none⟩ _ = g1 at *
  clear k5 c6 z6 x fr B f A0
  have k5 : cellAt g1 ⟨cb, 6, none⟩ = some (.slice ai c.ifs.length ci) := by rw [cellAt_of A1.cb]; rfl
  simp (disch := first | omega | assumption) only [C.law3_another_gos, vs, Go.Vc.vk, T.ts, ↓reduceIte, Nat.reduceEqDiff, reduceCtorEq, Nat.reduceLeDiff, Nat.reducePow, Int.reducePow, Int.reduceToNat, Nat.reduceAdd, k5]
  refine eff_append_slN (xs := []) (n := 0) (base := h.size) (m := c.ifs.length) (news := (natV c.ifs)) T.slT_39 rfl rfl Own.nil (hCi.ext (by decide) A1.x) (one_N _) (by omega) (by omega) A1.x.size ?_
  intro v1 m1 own1 fr
  have x := ext_nil fr
  rw [Nat.zero_add, List.nil_append] at own1
  have B := A1.ext x
  have c6 : cellAt m1 ⟨cb, 6, none⟩ = some (.slice ai c.ifs.length ci) := by rw [cellAt_of B.cb]; rfl
  have z6 : frozenAt m1 ⟨cb, 6, none⟩ = false := by simp [frozenAt, B.cb]
  obtain ⟨a1, d1, rfl, _⟩ := own1.slN.2
  simp (disch := first | omega | assumption) only [C.law3_another_gos, vs, Go.Vc.vk, T.ts, ↓reduceIte, Nat.reduceEqDiff, reduceCtorEq, Nat.reduceLeDiff, Nat.reducePow, Int.reducePow, Int.reduceToNat, Nat.reduceAdd]
  refine eff_store1_z T.zr_39 rfl rfl rfl rfl rfl c6 z6 ?_
  obtain ⟨A2, f⟩ := B.set 6 (.slice a1 c.ifs.length d1)
  have own1 := B.own own1 (by decide) f
  have own0 := B.own (own0.ext x) (by decide) f
  change AN h _ cb [.int .u16 (c.minor : Int), .int .u16 (c.major : Int), .int .u16 (c.flags : Int), .int .u16 (c.this : Int), .int .u16 (c.super : Int), .slice a0 c.pool.length d0, .slice a1 c.ifs.length d1, .slice af c.fields.length cf, .slice am c.methods.length cm] rb _ at A2
  generalize setAt m1 ⟨cb, 6, none⟩ _ = g2 at *
  clear k5 c6 z6 x fr B f A1
  have k5 : cellAt g2 ⟨cb, 7, none⟩ = some (.slice af c.fields.length cf) := by rw [cellAt_of A2.cb]; rfl
  simp (disch := first | omega | assumption) only [C.law3_another_gos, vs, Go.Vc.vk, T.ts, ↓reduceIte, Nat.reduceEqDiff, reduceCtorEq, Nat.reduceLeDiff, Nat.reducePow, Int.reducePow, Int.reduceToNat, Nat.reduceAdd, k5]
  refine eff_append_slN (xs := []) (n := 0) (base := h.size) (m := c.fields.length) (news := (flatF c.fields)) T.slT_40 rfl rfl Own.nil (hCf.ext (by decide) A2.x) (one_F _) (by omega) (by omega) A2.x.size ?_
  intro v2 m2 own2 fr
  have x := ext_nil fr
  rw [Nat.zero_add, List.nil_append] at own2
  have B := A2.ext x
  have c6 : cellAt m2 ⟨cb, 7, none⟩ = some (.slice af c.fields.length cf) := by rw [cellAt_of B.cb]; rfl
  have z6 : frozenAt m2 ⟨cb, 7, none⟩ = false := by simp [frozenAt, B.cb]
  obtain ⟨a2, d2, rfl, _⟩ := own2.slN.2
  simp (disch := first | omega | assumption) only [C.law3_another_gos, vs, Go.Vc.vk, T.ts, ↓reduceIte, Nat.reduceEqDiff, reduceCtorEq, Nat.reduceLeDiff, Nat.reducePow, Int.reducePow, Int.reduceToNat, Nat.reduceAdd]
  refine eff_store1_z T.zr_40 rfl rfl rfl rfl rfl c6 z6 ?_
  obtain ⟨A3, f⟩ := B.set 7 (.slice a2 c.fields.length d2)
  have own2 := B.own own2 (by decide) f
  have own0 := B.own (own0.ext x) (by decide) f
  have own1 := B.own (own1.ext x) (by decide) f
  change AN h _ cb [.int .u16 (c.minor : Int), .int .u16 (c.major : Int), .int .u16 (c.flags : Int), .int .u16 (c.this : Int), .int .u16 (c.super : Int), .slice a0 c.pool.length d0, .slice a1 c.ifs.length d1, .slice a2 c.fields.length d2, .slice am c.methods.length cm] rb _ at A3
  generalize setAt m2 ⟨cb, 7, none⟩ _ = g3 at *
  clear k5 c6 z6 x fr B f A2
  have k5 : cellAt g3 ⟨cb, 8, none⟩ = some (.slice am c.methods.length cm) := by rw [cellAt_of A3.cb]; rfl
  simp (disch := first | omega | assumption) only [C.law3_another_gos, vs, Go.Vc.vk, T.ts, ↓reduceIte, Nat.reduceEqDiff, reduceCtorEq, Nat.reduceLeDiff, Nat.reducePow, Int.reducePow, Int.reduceToNat, Nat.reduceAdd, k5]
  refine eff_append_slN (xs := []) (n := 0) (base := h.size) (m := c.methods.length) (news := rows.flatten) T.slT_41 rfl rfl Own.nil (hrs.ext (by decide) A3.x) hone (by omega) (by omega) A3.x.size ?_
  intro v3 m3 own3 fr
  have x := ext_nil fr
  rw [Nat.zero_add, List.nil_append] at own3
  have B := A3.ext x
  have c6 : cellAt m3 ⟨cb, 8, none⟩ = some (.slice am c.methods.length cm) := by rw [cellAt_of B.cb]; rfl
  have z6 : frozenAt m3 ⟨cb, 8, none⟩ = false := by simp [frozenAt, B.cb]
  obtain ⟨a3, d3, rfl, _⟩ := own3.slN.2
  simp (disch := first | omega | assumption) only [C.law3_another_gos, vs, Go.Vc.vk, T.ts, ↓reduceIte, Nat.reduceEqDiff, reduceCtorEq, Nat.reduceLeDiff, Nat.reducePow, Int.reducePow, Int.reduceToNat, Nat.reduceAdd]
  refine eff_store1_z T.zr_41 rfl rfl rfl rfl rfl c6 z6 ?_
  obtain ⟨A4, f⟩ := B.set 8 (.slice a3 c.methods.length d3)
  have own3 := B.own own3 (by decide) f
  have own0 := B.own (own0.ext x) (by decide) f
  have own1 := B.own (own1.ext x) (by decide) f
  have own2 := B.own (own2.ext x) (by decide) f
  change AN h _ cb [.int .u16 (c.minor : Int), .int .u16 (c.major : Int), .int .u16 (c.flags : Int), .int .u16 (c.this : Int), .int .u16 (c.super : Int), .slice a0 c.pool.length d0, .slice a1 c.ifs.length d1, .slice a2 c.fields.length d2, .slice a3 c.methods.length d3] rb _ at A4
  generalize setAt m3 ⟨cb, 8, none⟩ _ = g4 at *
  clear k5 c6 z6 x fr B f A3
  have hM : HM h g4 0 (.slice a3 c.methods.length d3) c.methods rows := ⟨hrl, own3, fun j hj => by
    obtain ⟨vH, q1, q2, _⟩ := hrm j hj
    exact ⟨vH, q1, fun hh => by omega, fun _ => q2⟩⟩
  have k8 : cellAt g4 ⟨cb, 8, none⟩ = some (.slice a3 c.methods.length d3) := by rw [cellAt_of A4.cb]; rfl
  simp (disch := first | omega | assumption) only [C.law3_another_gos, vs, Go.Vc.vk, T.ts, ↓reduceIte, Nat.reduceEqDiff, reduceCtorEq, Nat.reduceLeDiff, Nat.reducePow, Int.reducePow, Int.reduceToNat, Nat.reduceAdd, k8]
  clear hrs hrm hone own3 k8
  refine loop_intro [0, 1, 2, 22, 23] (fun m ρ hx => ∃ (i : Nat) (rows : List (List Value)), m = c.methods.length - i ∧ i ≤ c.methods.length ∧ ρ = [(0, .agg ([.int .u16 (c.minor : Int), .int .u16 (c.major : Int), .int .u16 (c.flags : Int), .int .u16 (c.this : Int), .int .u16 (c.super : Int), .slice ap c.pool.length cp, .slice ai c.ifs.length ci, .slice af c.fields.length cf, .slice am c.methods.length cm] : List Value).toArray), (1, .pointer (some ⟨cb, 0, none⟩)), (2, .pointer (some ⟨rb, 0, none⟩)), (22, .int .i64 c.methods.length), (23, .int .i64 i)] ∧
      AN h hx cb [.int .u16 (c.minor : Int), .int .u16 (c.major : Int), .int .u16 (c.flags : Int), .int .u16 (c.this : Int), .int .u16 (c.super : Int), .slice a0 c.pool.length d0, .slice a1 c.ifs.length d1, .slice a2 c.fields.length d2, .slice a3 c.methods.length d3] rb #[.int .u16 0, .int .u16 0, .int .u16 0, .int .u16 0, .int .u16 0, .slice none 0 0, .slice none 0 0, .slice none 0 0, .slice none 0 0] ∧ Own hx h.size 76 5 (.slice a0 c.pool.length d0) c.pool.length (flatS c.pool) ∧ Own hx h.size 38 1 (.slice a1 c.ifs.length d1) c.ifs.length (natV c.ifs) ∧ Own hx h.size 89 4 (.slice a2 c.fields.length d2) c.fields.length (flatF c.fields) ∧
      HM h hx i (.slice a3 c.methods.length d3) c.methods rows) ?_ ?_
  · simp (disch := first | omega | assumption) only [C.law3_another_gos, vs, Go.Vc.vk, T.ts, ↓reduceIte, Nat.reduceEqDiff, reduceCtorEq, Nat.reduceLeDiff, Nat.reducePow, Int.reducePow, Int.reduceToNat, Nat.reduceAdd]
    exact ⟨_, 0, _, rfl, Nat.zero_le _, rfl, A4, own0, own1, own2, hM⟩
  clear A4 own0 own1 own2 hM hrl hall9 hbase
  rintro m ρ hx ⟨i, rows, rfl, hi, rfl, A, own0, own1, own2, hM⟩
  rcases Nat.lt_or_ge i c.methods.length with hlt | hge
  case inl =>
    have hlt' : (i : Int) < c.methods.length := by omega
    have k8 : cellAt hx ⟨cb, 8, none⟩ = some (.slice a3 c.methods.length d3) := by rw [cellAt_of A.cb]; rfl
    have hmw := sumW_get hlt
    obtain ⟨vH, r1, _, r2⟩ := hM.r i hlt
    have hH := r2 (Nat.le_refl _)
    obtain ⟨g, d, hv, hg, hrd⟩ : ∃ g d, Value.slice a3 c.methods.length d3 = .slice (some ⟨g, 0, none⟩) c.methods.length d ∧ h.size ≤ g ∧ Rd hx g 0 rows.flatten := by
      rcases hM.o.rd with ⟨_, h0, _⟩ | ⟨g, d, q1, q2, q3⟩
      · omega
      · exact ⟨g, d, q1, q2, q3⟩
    have hrow := hrd.sub (i * 9) 9
    rw [flatten_row 9 rows i hM.nine (by rw [hM.l]; exact hlt), r1] at hrow
    have k7 : cellAt hx ⟨g, i * 9 + 7, none⟩ = some vH := by simpa using hrow 7 _ rfl
    rw [hv] at k8
    simp only [mW] at hmw
    simp (disch := first | omega | assumption) only [C.law3_another_gos, vs, Go.Vc.vk, T.ts, ↓reduceIte, Nat.reduceEqDiff, reduceCtorEq, Nat.reduceLeDiff, Nat.reducePow, Int.reducePow, Int.reduceToNat, Nat.reduceAdd, hlt', k8, k7]
    refine eff_append_slN (xs := []) (n := 0) (base := h.size) (m := (c.methods.getD i Mth.zero).code.hs.length) (news := flatH (c.methods.getD i Mth.zero).code.hs) T.slT_77 rfl rfl Own.nil (hH.ext (by decide) A.x) (one_H _) (by omega) (by omega) A.x.size ?_
    intro u h1 ownH fr
    have x := ext_nil fr
    rw [Nat.zero_add, List.nil_append] at ownH
    obtain ⟨g', d', hv', hg', ⟨gcs, gfz, hgb⟩, ⟨w, hw⟩, hz, hN⟩ := hM.next hlt x ownH
    rw [hv] at hv'
    cases hv'
    have B := A.ext x
    have k8' : cellAt h1 ⟨cb, 8, none⟩ = some (.slice (some ⟨g, 0, none⟩) c.methods.length d) := by rw [cellAt_of B.cb, ← hv]; rfl
    obtain ⟨aH, cH, rfl, _⟩ := ownH.slN.2
    simp (disch := first | omega | assumption) only [C.law3_another_gos, vs, Go.Vc.vk, T.ts, ↓reduceIte, Nat.reduceEqDiff, reduceCtorEq, Nat.reduceLeDiff, Nat.reducePow, Int.reducePow, Int.reduceToNat, Nat.reduceAdd, hlt', k8']
    refine eff_store1_z T.zr_77 rfl rfl rfl rfl rfl hw hz ?_
    have f1 : Fr (fun k => k = g) h1 (setAt h1 ⟨g, i * 9 + 7, none⟩ (.slice aH (c.methods.getD i Mth.zero).code.hs.length cH)) := Fr.set (S := fun k => k = g) _ _ _ fun _ => rfl
    have hcg : cb ≠ g := by
      intro hh
      subst hh
      have := B.cb
      rw [hgb] at this
      simp only [Option.some.injEq, Obj.cells.injEq] at this
      exact absurd this.2.1 (by decide)
    have hrg : rb ≠ g := by
      intro hh
      subst hh
      have := B.rb
      rw [hgb] at this
      simp only [Option.some.injEq, Obj.cells.injEq] at this
      exact absurd this.2.1 (by decide)
    have keep : ∀ {e : TypeId} {s n : Nat} {v : Value} {ys : List Value}, e ≠ 81 → Own h1 h.size e s v n ys → Own (setAt h1 ⟨g, i * 9 + 7, none⟩ (.slice aH (c.methods.getD i Mth.zero).code.hs.length cH)) h.size e s v n ys := fun ht OO => OO.fr f1 fun k hk hS => by
      subst hS
      exact Own_ne OO hgb ht hk
    simp (disch := first | omega | assumption) only [C.law3_another_gos, vs, Go.Vc.vk, T.ts, ↓reduceIte, Nat.reduceEqDiff, reduceCtorEq, Nat.reduceLeDiff, Nat.reducePow, Int.reducePow, Int.reduceToNat, Nat.reduceAdd]
    refine ⟨_, by omega, i + 1, rows.set i (MthV (c.methods.getD i Mth.zero) (.slice aH (c.methods.getD i Mth.zero).code.hs.length cH)), rfl, by omega, by simp, ⟨B.c1, B.r1, B.ne, Fr.trans B.x f1 (fun _ _ h => h) (fun k hk hS => by omega), Fr_blk f1 B.cb hcg, Fr_blk f1 B.rb hrg⟩, keep (by decide) (own0.ext x), keep (by decide) (own1.ext x), keep (by decide) (own2.ext x), ?_⟩
    exact hN
  have hlt' : ¬ (i : Int) < c.methods.length := by omega
  have hld := ld_agg T.ag_43 (Rd_block (vs := [.int .u16 (c.minor : Int), .int .u16 (c.major : Int), .int .u16 (c.flags : Int), .int .u16 (c.this : Int), .int .u16 (c.super : Int), .slice a0 c.pool.length d0, .slice a1 c.ifs.length d1, .slice a2 c.fields.length d2, .slice a3 c.methods.length d3]) A.cb) rfl
  simp (disch := first | omega | assumption) only [C.law3_another_gos, vs, Go.Vc.vk, T.ts, ↓reduceIte, Nat.reduceEqDiff, reduceCtorEq, Nat.reduceLeDiff, Nat.reducePow, Int.reducePow, Int.reduceToNat, Nat.reduceAdd, hlt', hld]
  refine eff_storeN_zz T.zr_43 rfl rfl rfl (by simp [Value.cells, oneCell]) A.rb (by decide) (fun j _ _ => by simp) ?_
  intro h9 f9 b9
  have hrd : Rd h9 rb 0 [.int .u16 (c.minor : Int), .int .u16 (c.major : Int), .int .u16 (c.flags : Int), .int .u16 (c.this : Int), .int .u16 (c.super : Int), .slice a0 c.pool.length d0, .slice a1 c.ifs.length d1, .slice a2 c.fields.length d2, .slice a3 c.methods.length d3] := Rd_block (by simpa [Value.cells] using b9)
  have hld9 := ld_agg T.ag_43 hrd rfl
  have keep : ∀ {e : TypeId} {s n : Nat} {v : Value} {ys : List Value}, e ≠ 43 → Own hx h.size e s v n ys → Own h9 h.size e s v n ys := fun ht OO => OO.fr f9 fun k hk hS => by
    subst hS
    exact Own_ne OO A.rb ht hk
  have x9 : Ext h h9 := Fr.trans A.x f9 (fun _ _ h => h) (fun k hk hS => by have := A.r1; omega)
  have o0 := keep (by decide) own0
  have o1 := keep (by decide) own1
  have o2 := keep (by decide) own2
  have o3 := keep (by decide) hM.o
  have hC' : ClsC h9 c (.slice a0 c.pool.length d0) (.slice a1 c.ifs.length d1) (.slice a2 c.fields.length d2) (.slice a3 c.methods.length d3) :=
    ⟨o0.slN, o0.capOk, o1.slN, o1.capOk, o2.slN, o2.capOk, ⟨rows, hM.l, o3.slN, fun j hj => by
      obtain ⟨vH, q1, q2, _⟩ := hM.r j hj
      have q3 := keep (by decide) (q2 (by omega))
      exact ⟨vH, q1, q3.slN, q3.capOk⟩⟩, o3.capOk⟩
  simp (disch := first | omega | assumption) only [C.law3_another_gos, vs, Go.Vc.vk, T.ts, ↓reduceIte, Nat.reduceEqDiff, reduceCtorEq, Nat.reduceLeDiff, Nat.reducePow, Int.reducePow, Int.reduceToNat, Nat.reduceAdd, hld9]
  exact ⟨x9, _, _, _, _, rfl, hC'⟩
end Go.Proofs.Ytohkbpnblkkdgaa

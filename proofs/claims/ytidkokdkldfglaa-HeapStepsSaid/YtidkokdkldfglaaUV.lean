/- A thing made, by the program. No condition. -/
import Derived.Test.YtidkokdkldfglaaUR
namespace Go.Proofs.Ytidkokdkldfglaa
open Go.Vc
set_option maxRecDepth 100000
set_option linter.unusedSimpArgs false
set_option linter.unusedVariables false

theorem made_one (v : Value) (n : Nat) : madeCells #[v] n = (List.replicate n v).toArray := by
  apply Array.ext
  · simp [madeCells]
  · intro i h1 h2
    simp [madeCells, Nat.mod_one]
section
variable {τ ρ : Env} {h : Heap} {K : Value → Heap → Prop} {ty : TypeId} {x y : Operand}
theorem eff_mkref {n : Nat} (hx : evo τ ρ x = some (.int .i64 (n : Int))) (hy : evo τ ρ y = some (.int .i64 (n : Int))) (hn : n ≤ 1000000) (H : K (.slice (some ⟨h.size, 0, none⟩) n n) (h.push (.cells (List.replicate n (refV 0)).toArray 51 (0, 0)))) :
    eff Try.prog (.makeSlice 68 x y) ty τ ρ h K := by
  refine eff_make T.slT_68 hx hy (by omega) (by omega) (by omega) ?_
  intro cs z i h1 h2 h3
  obtain ⟨i', z', u1, u2, u3, _⟩ := zr_spec T.zr_51
  rw [u1] at h1; cases h1
  rw [u2] at h2; cases h2
  rw [u3, Int.toNat_natCast, Nat.mul_one, made_one] at h3
  subst h3
  rw [Int.toNat_natCast]
  exact H
theorem eff_mkword {n : Nat} (hx : evo τ ρ x = some (.int .i64 (n : Int))) (hy : evo τ ρ y = some (.int .i64 (n : Int))) (hn : n ≤ 1000000) (H : K (.slice (some ⟨h.size, 0, none⟩) n n) (h.push (.cells (List.replicate n (wordV 0)).toArray 30 (0, 0)))) :
    eff Try.prog (.makeSlice 63 x y) ty τ ρ h K := by
  refine eff_make T.slT_63 hx hy (by omega) (by omega) (by omega) ?_
  intro cs z i h1 h2 h3
  obtain ⟨i', z', u1, u2, u3, _⟩ := zr_spec T.zr_30
  rw [u1] at h1; cases h1
  rw [u2] at h2; cases h2
  rw [u3, Int.toNat_natCast, Nat.mul_one, made_one] at h3
  subst h3
  rw [Int.toNat_natCast]
  exact H
end
/-- Is there room for so many words? -/
def Fits (a : AS) (n : Nat) : Prop := ∃ t, Total a t ∧ t + n ≤ a.limit
/-- A thing that waits to be put among the others. -/
structure Nw (base : Nat) (h0 hc : Heap) (p0 p : Ph) (s0 s : St) (cb g refs g' words : Nat) : Prop where
  st : Stp base h0 hc p0 p s0 { s with used := s.used + (2 + refs + words), RS := upd s.RS g (List.replicate refs 0), WS := upd s.WS g' (List.replicate words 0) }
  cc : hc[cb]? = some (.cells (newC g refs g' words).row.toArray 85 (0, 0))
  nf : ¬ foot p { s with used := s.used + (2 + refs + words), RS := upd s.RS g (List.replicate refs 0), WS := upd s.WS g' (List.replicate words 0) } cb
  rg : s.RS g = none
  wg : s.WS g' = none
theorem push3_0 {h : Heap} {a b c : Obj} : (((h.push a).push b).push c)[h.size]? = some a := by
  rw [Array.getElem?_push, if_neg (by simp only [Array.size_push]; omega), Array.getElem?_push, if_neg (by simp only [Array.size_push]; omega), Array.getElem?_push, if_pos rfl]
theorem push3_1 {h : Heap} {a b c : Obj} : (((h.push a).push b).push c)[h.size + 1]? = some b := by
  rw [Array.getElem?_push, if_neg (by simp only [Array.size_push]; omega), Array.getElem?_push, if_pos (by simp only [Array.size_push])]
theorem push3_2 {h : Heap} {a b c : Obj} : (((h.push a).push b).push c)[h.size + 1 + 1]? = some c := by
  rw [Array.getElem?_push, if_pos (by simp only [Array.size_push])]
theorem nw_of {base : Nat} {h h2 h5 h6 : Heap} {p p1 : Ph} {s0 s : St} {cb g refs g' words : Nat} (hbs : base ≤ h2.size) (W : Stp base h h2 p p1 s0 { s with used := s.used + (2 + refs + words) }) (E : Ext h2 h5) (F : Fr (fun k => k = cb) h5 h6)
    (fd : ∀ k, foot p1 s k → k < h2.size)
    (g1 : h2.size ≤ g) (g2 : h2.size ≤ g') (g3 : h2.size ≤ cb) (n1 : g ≠ g') (n2 : g ≠ cb) (n3 : g' ≠ cb) (lg : g < h5.size) (lg' : g' < h5.size)
    (e1 : h5[g]? = some (.cells (List.replicate refs (refV 0)).toArray 51 (0, 0))) (e2 : h5[g']? = some (.cells (List.replicate words (wordV 0)).toArray 30 (0, 0)))
    (e3 : h6[cb]? = some (.cells (newC g refs g' words).row.toArray 85 (0, 0))) : Nw base h h6 p p1 s0 s cb g refs g' words := by
  have R := W.rep
  have hh : h.size ≤ h2.size := W.fr.size
  have rg : s.RS g = none := by
    cases hx : s.RS g with
    | none => rfl
    | some l => have := fd g (.inr (.inr (.inr (.inr (.inr (.inl (by rw [hx]; simp))))))); omega
  have wg : s.WS g' = none := by
    cases hx : s.WS g' with
    | none => rfl
    | some l => have := fd g' (.inr (.inr (.inr (.inr (.inr (.inr (by rw [hx]; simp))))))); omega
  have R5 := R.ext E
  have R6 : Rep base h6 p1 { s with used := s.used + (2 + refs + words) } := R5.fr F fun k hk e => by
    have := fd k hk
    omega
  have ft : ∀ k, foot p1 { s with used := s.used + (2 + refs + words), RS := upd s.RS g (List.replicate refs 0), WS := upd s.WS g' (List.replicate words 0) } k → foot p1 s k ∨ k = g ∨ k = g' := by
    intro k hk
    rcases hk with hk | hk | hk | hk | hk | hk | hk
    · exact .inl (.inl hk)
    · exact .inl (.inr (.inl hk))
    · exact .inl (.inr (.inr (.inl hk)))
    · exact .inl (.inr (.inr (.inr (.inl hk))))
    · exact .inl (.inr (.inr (.inr (.inr (.inl hk)))))
    · by_cases e : k = g
      · exact .inr (.inl e)
      · simp only [upd_ne e] at hk
        exact .inl (.inr (.inr (.inr (.inr (.inr (.inl hk))))))
    · by_cases e : k = g'
      · exact .inr (.inr e)
      · simp only [upd_ne e] at hk
        exact .inl (.inr (.inr (.inr (.inr (.inr (.inr hk))))))
  have Rn : Rep base h6 p1 { s with used := s.used + (2 + refs + words), RS := upd s.RS g (List.replicate refs 0), WS := upd s.WS g' (List.replicate words 0) } := by
    refine ⟨R6.sp, R6.hp, R6.yo, R6.oo, R6.fo, ?_, ?_, R6.ne, R6.bs⟩
    · intro k l hk
      by_cases e : k = g
      · subst e
        simp only [upd_eq, Option.some.injEq] at hk
        subst hk
        refine ⟨by omega, ?_, fun hf => ?_⟩
        · rw [F.same k lg n2, e1, List.map_replicate]
        · have := fd k (.inr (.inr (.inr (.inr (.inl hf)))))
          omega
      · simp only [upd_ne e] at hk
        exact R6.rs k l hk
    · intro k l hk
      by_cases e : k = g'
      · subst e
        simp only [upd_eq, Option.some.injEq] at hk
        subst hk
        refine ⟨by omega, ?_⟩
        rw [F.same k lg' n3, e2, List.map_replicate]
      · simp only [upd_ne e] at hk
        exact R6.ws k l hk
  refine ⟨⟨Rn, ?_, ?_⟩, e3, fun hf => ?_, rg, wg⟩
  · refine Fr.trans W.fr (Fr.trans E F (T := fun k => k = cb) (fun _ _ h => h.elim) fun _ _ h => h) (fun _ _ h => h) fun k hk e => ?_
    omega
  · intro k hk
    rcases ft k hk with h1 | h1
    · exact W.nw k h1
    · exact .inr (by omega)
  · rcases ft cb hf with h1 | h1
    · have := fd cb h1; omega
    · omega
set_option maxHeartbeats 2000000 in
theorem Make_t0 {base : Nat} {h hc : Heap} {p p1 : Ph} {s0 s : St} {a : AS} {cb g refs g' words : Nat} {v1 v2 v3 v27 v41 v55 v4 : Value} (hbs : base ≤ hc.size) (W : Nw base h hc p p1 s0 s cb g refs g' words) (pk : Pk p p1) (I : Inv s) (S : Sim s a) (el : s.limit = s0.limit) (er : s.room = s0.room)
    (hu : s.used + (2 + refs + words) ≤ s.limit) (hr : s.room ≤ 100000) {Q : Value → Heap → Prop}
    (H : ∀ r h' p' s' R, Stp base h h' p p' s0 s' → Pk p p' → Inv s' → SimR s' (grow a refs words) R → R r a.things.length → r ≠ 0 → r < 4294967296 → s'.limit = s0.limit → s'.room = s0.room → Q (refV r) h') :
    Cd.vc Try.prog C.h_Make_t0 (retQ Try.prog [(10, none)] Q) [(0, ptr p.H 0), (1, v1), (2, v2), (3, v3), (4, v4), (10, .int .u32 0), (11, .int .i64 ((2 + refs + words : Nat) : Int)), (12, ptr cb 0), (27, v27), (41, v41), (55, v55), (76, undef)] hc := by
  obtain ⟨R, HR⟩ := S
  have il := I.len
  have hll := I.ll
  have pH : p1.H = p.H := pk.2
  have R1 := W.st.rep
  have l5 : cellAt hc ⟨p.H, 5, none⟩ = some (.int .i64 (s.room : Int)) := by have := R1.h5; rw [pH] at this; exact this
  have lcb : ld Try.prog 85 ⟨cb, 0, none⟩ hc = some (.agg (newC g refs g' words).row.toArray) := ld_agg T.ag_85 (vs := (newC g refs g' words).row) (by
    intro j v hv
    rw [Nat.zero_add, cellAt_of W.cc, List.getElem?_toArray]; exact hv) rfl
  have q1 : (s.room : Int) / 2 = ((s.room / 2 : Nat) : Int) := by omega
  have q2 : IntKind.i64.wrap ((s.room / 2 : Nat) : Int) = ((s.room / 2 : Nat) : Int) := wrap_i64 (by omega) (by omega)
  have X3 := Ext.push hc (.cells (newC g refs g' words).row.toArray 85)
  have rd3 : Rd (hc.push (.cells (newC g refs g' words).row.toArray 85)) hc.size 0 (newC g refs g' words).row := Rd_new (vs := (newC g refs g' words).row)
  have R3 := R1.ext X3
  have er0 : (#[.int .i64 0, .int .i64 0, .int .i64 0, .slice (Option.map (fun b => { block := b, off := 0 }) (some g)) refs refs, .slice (Option.map (fun b => { block := b, off := 0 }) (some g')) words words, .int .u32 0, .bool false] : Array Value) = (newC g refs g' words).row.toArray := rfl
  by_cases c1 : ((s.room / 2 : Nat) : Int) < ((2 + refs + words : Nat) : Int)
  · have l1 : cellAt hc ⟨p.H, 1, none⟩ = some (.slice (some ⟨p1.O, 0, none⟩) s.old.length p1.oc) := by have := R1.h1; rw [pH] at this; exact this
    simp (disch := first | omega | assumption) only [C.h_Make_gos, T.tv, ↓reduceIte, Nat.reduceEqDiff, reduceCtorEq, Nat.reduceLeDiff, Nat.reducePow, Int.reducePow, Int.reduceToNat, Nat.reduceAdd, C.h_Make_t0_go, l5, q1, q2, c1, l1, lcb]
    refine eff_lits T.slT_67 rfl rfl (by decide) ?_
    simp (disch := first | omega | assumption) only [C.h_Make_gos, T.tv, ↓reduceIte, Nat.reduceEqDiff, reduceCtorEq, Nat.reduceLeDiff, Nat.reducePow, Int.reducePow, Int.reduceToNat, Nat.reduceAdd]
    have o3 : cellAt (hc.push (.cells (newC g refs g' words).row.toArray 85)) ⟨p.H, 1, none⟩ = some (.slice (some ⟨p1.O, 0, none⟩) s.old.length p1.oc) := by have := R3.h1; rw [pH] at this; exact this
    have oo3 := R3.oo
    generalize hc.push (.cells (newC g refs g' words).row.toArray 85) = h3 at *
    refine ⟨rfl, o3, ?_⟩
    refine eff_append_ownF (m := 1) T.slT_67 rfl rfl oo3 rfl rd3 (one_row _) (by show s.old.length + 1 ≤ _; omega) (by show (s.old.length + 1) * _ ≤ _; omega) (Nat.le_trans hbs X3.size) ?_
    intro v' h4 o4 f4 _ n4
    have n4' : ∀ k, v'.ownBlock = some k → k = p1.O ∨ h3.size ≤ k := fun k hk => by
      rcases n4 k hk with h1 | h1
      · exact .inl (by cases h1; rfl)
      · exact .inr h1
    have f4' : Fr (fun k => k = p1.O) h3 h4 := f4.mono fun k _ hk => by cases hk; rfl
    obtain ⟨O', oc', rfl, S4⟩ := R3.addOld (c := newC g refs g' words) o4 f4' n4'
    have D3 := R3.dis
    rw [pH] at S4
    have l7 : cellAt h4 ⟨p.H, 1, none⟩ = some (.slice (some ⟨p1.O, 0, none⟩) s.old.length p1.oc) := by rw [f4'.cell (by have := (R3.lt (.inr (.inl rfl))).2; rw [← pH]; exact this) (by rw [← pH]; exact D3.ho)]; exact o3
    have l8 : frozenAt h4 ⟨p.H, 1, none⟩ = false := by
      rw [frozenAt_block (f4'.same _ (by have := (R3.lt (.inr (.inl rfl))).2; rw [← pH]; exact this) (by rw [← pH]; exact D3.ho))]
      have := R3.hz 1; rw [pH] at this; exact this
    simp (disch := first | omega | assumption) only [C.h_Make_gos, T.tv, ↓reduceIte, Nat.reduceEqDiff, reduceCtorEq, Nat.reduceLeDiff, Nat.reducePow, Int.reducePow, Int.reduceToNat, Nat.reduceAdd]
    refine eff_store1_z T.zr_67 rfl rfl rfl rfl rfl l7 l8 ?_
    have S6 := (W.st.ext X3).trans S4
    have es : ({ { s with used := s.used + (2 + refs + words), RS := upd s.RS g (List.replicate refs 0), WS := upd s.WS g' (List.replicate words 0) } with old := s.old ++ [newC g refs g' words] } : St) = addO s g refs g' words := rfl
    change Stp base h _ p _ s0 (addO s g refs g' words) at S6
    obtain ⟨J1, J2⟩ := addO_law I HR W.rg W.wg hu
    have l1' : cellAt (setAt h4 ⟨p.H, 1, none⟩ (.slice (some ⟨O', 0, none⟩) (s.old.length + 1) oc')) ⟨p.H, 1, none⟩ = some (.slice (some ⟨O', 0, none⟩) (s.old.length + 1) oc') := by
      have := S6.rep.h1
      rw [show (addO s g refs g' words).old.length = s.old.length + 1 by simp [addO]] at this
      exact this
    have w4 : IntKind.i64.wrap (((s.old.length + 1 : Nat) : Int) - 1) = ((s.old.length : Nat) : Int) := by rw [wrap_i64 (by omega) (by omega)]; omega
    have w5 : IntKind.u32.wrap ((s.old.length : Nat) : Int) = ((s.old.length : Nat) : Int) := wrap_u32 (by omega) (by omega)
    simp (disch := first | omega | assumption) only [C.h_Make_gos, T.tv, ↓reduceIte, Nat.reduceEqDiff, reduceCtorEq, Nat.reduceLeDiff, Nat.reducePow, Int.reducePow, Int.reduceToNat, Nat.reduceAdd, l1', w4, w5]
    exact H s.old.length _ _ _ _ S6 ⟨pk.1, rfl⟩ J1 J2 (.inr ⟨rfl, rfl⟩) (by omega) (by omega) el er
  · have l3 : cellAt hc ⟨p.H, 3, none⟩ = some (.int .i64 (s.fresh : Int)) := by have := R1.h3; rw [pH] at this; exact this
    have z3 : frozenAt hc ⟨p.H, 3, none⟩ = false := by have := R1.hz 3; rw [pH] at this; exact this
    have w3 : IntKind.i64.wrap ((s.fresh : Int) + ((2 + refs + words : Nat) : Int)) = ((s.fresh + (2 + refs + words) : Nat) : Int) := by rw [wrap_i64 (by omega) (by omega)]; omega
    simp (disch := first | omega | assumption) only [C.h_Make_gos, T.tv, ↓reduceIte, Nat.reduceEqDiff, reduceCtorEq, Nat.reduceLeDiff, Nat.reducePow, Int.reducePow, Int.reduceToNat, Nat.reduceAdd, C.h_Make_t0_go, l5, q1, q2, c1, l3, w3]
    refine eff_store1_z T.zr_3 rfl rfl rfl rfl rfl l3 z3 ?_
    have S2 := R1.fresh (s.fresh + (2 + refs + words))
    rw [pH] at S2
    have W2 := W.st.trans S2
    have hcb : (setAt hc ⟨p.H, 3, none⟩ (.int .i64 ((s.fresh + (2 + refs + words) : Nat) : Int)))[cb]? = some (.cells (newC g refs g' words).row.toArray 85 (0, 0)) := by
      rw [setAt_ne (fun e => W.nf (.inr (.inl (e.trans pH.symm))))]; exact W.cc
    have hbs2 : base ≤ (setAt hc ⟨p.H, 3, none⟩ (.int .i64 ((s.fresh + (2 + refs + words) : Nat) : Int))).size := Nat.le_trans hbs S2.fr.size
    clear S2 X3 rd3 R3 lcb l5 l3 z3
    generalize setAt hc ⟨p.H, 3, none⟩ (.int .i64 ((s.fresh + (2 + refs + words) : Nat) : Int)) = h2 at *
    have R2 := W2.rep
    have lcb : ld Try.prog 85 ⟨cb, 0, none⟩ h2 = some (.agg (newC g refs g' words).row.toArray) := ld_agg T.ag_85 (vs := (newC g refs g' words).row) (by
      intro j v hv
      rw [Nat.zero_add, cellAt_of hcb, List.getElem?_toArray]; exact hv) rfl
    have X3 := Ext.push h2 (.cells (newC g refs g' words).row.toArray 85)
    have rd3 : Rd (h2.push (.cells (newC g refs g' words).row.toArray 85)) h2.size 0 (newC g refs g' words).row := Rd_new (vs := (newC g refs g' words).row)
    have R3 := R2.ext X3
    have l0 : cellAt h2 ⟨p.H, 0, none⟩ = some (.slice (some ⟨p1.Y, 0, none⟩) s.young.length p1.yc) := by have := R2.h0; rw [pH] at this; exact this
    simp (disch := first | omega | assumption) only [C.h_Make_gos, T.tv, ↓reduceIte, Nat.reduceEqDiff, reduceCtorEq, Nat.reduceLeDiff, Nat.reducePow, Int.reducePow, Int.reduceToNat, Nat.reduceAdd, l0, lcb]
    refine eff_lits T.slT_67 rfl rfl (by decide) ?_
    simp (disch := first | omega | assumption) only [C.h_Make_gos, T.tv, ↓reduceIte, Nat.reduceEqDiff, reduceCtorEq, Nat.reduceLeDiff, Nat.reducePow, Int.reducePow, Int.reduceToNat, Nat.reduceAdd]
    have o3 : cellAt (h2.push (.cells (newC g refs g' words).row.toArray 85)) ⟨p.H, 0, none⟩ = some (.slice (some ⟨p1.Y, 0, none⟩) s.young.length p1.yc) := by have := R3.h0; rw [pH] at this; exact this
    have oo3 := R3.yo
    generalize h2.push (.cells (newC g refs g' words).row.toArray 85) = h3 at *
    refine ⟨rfl, o3, ?_⟩
    refine eff_append_ownF (m := 1) T.slT_67 rfl rfl oo3 rfl rd3 (one_row _) (by show s.young.length + 1 ≤ _; omega) (by show (s.young.length + 1) * _ ≤ _; omega) (Nat.le_trans hbs2 X3.size) ?_
    intro v' h4 o4 f4 _ n4
    have n4' : ∀ k, v'.ownBlock = some k → k = p1.Y ∨ h3.size ≤ k := fun k hk => by
      rcases n4 k hk with h1 | h1
      · exact .inl (by cases h1; rfl)
      · exact .inr h1
    have f4' : Fr (fun k => k = p1.Y) h3 h4 := f4.mono fun k _ hk => by cases hk; rfl
    obtain ⟨Y', yc', rfl, S4⟩ := R3.addYoung (c := newC g refs g' words) o4 f4' n4'
    have D3 := R3.dis
    rw [pH] at S4
    have l7 : cellAt h4 ⟨p.H, 0, none⟩ = some (.slice (some ⟨p1.Y, 0, none⟩) s.young.length p1.yc) := by rw [f4'.cell (by have := (R3.lt (.inr (.inl rfl))).2; rw [← pH]; exact this) (by rw [← pH]; exact D3.hy)]; exact o3
    have l8 : frozenAt h4 ⟨p.H, 0, none⟩ = false := by
      rw [frozenAt_block (f4'.same _ (by have := (R3.lt (.inr (.inl rfl))).2; rw [← pH]; exact this) (by rw [← pH]; exact D3.hy))]
      have := R3.hz 0; rw [pH] at this; exact this
    simp (disch := first | omega | assumption) only [C.h_Make_gos, T.tv, ↓reduceIte, Nat.reduceEqDiff, reduceCtorEq, Nat.reduceLeDiff, Nat.reducePow, Int.reducePow, Int.reduceToNat, Nat.reduceAdd]
    refine eff_store1_z T.zr_67 rfl rfl rfl rfl rfl l7 l8 ?_
    have S6 := (W2.ext X3).trans S4
    change Stp base h _ p _ s0 (addY s g refs g' words) at S6
    obtain ⟨J1, J2⟩ := addY_law I HR W.rg W.wg hu
    have l1' : cellAt (setAt h4 ⟨p.H, 0, none⟩ (.slice (some ⟨Y', 0, none⟩) (s.young.length + 1) yc')) ⟨p.H, 0, none⟩ = some (.slice (some ⟨Y', 0, none⟩) (s.young.length + 1) yc') := by
      have := S6.rep.h0
      rw [show (addY s g refs g' words).young.length = s.young.length + 1 by simp [addY]] at this
      exact this
    have w4 : IntKind.i64.wrap (((s.young.length + 1 : Nat) : Int) - 1) = ((s.young.length : Nat) : Int) := by rw [wrap_i64 (by omega) (by omega)]; omega
    have w5 : IntKind.u32.wrap ((s.young.length : Nat) : Int) = ((s.young.length : Nat) : Int) := wrap_u32 (by omega) (by omega)
    have o31 := or31 (n := s.young.length) (by omega)
    simp (disch := first | omega | assumption) only [C.h_Make_gos, T.tv, ↓reduceIte, Nat.reduceEqDiff, reduceCtorEq, Nat.reduceLeDiff, Nat.reducePow, Int.reducePow, Int.reduceToNat, Nat.reduceAdd, l1', w4, w5, o31]
    exact H (2147483648 + s.young.length) _ _ _ _ S6 ⟨pk.1, rfl⟩ J1 J2 (.inr ⟨rfl, rfl⟩) (by omega) (by omega) el er
set_option maxHeartbeats 2000000 in
theorem Make_t1 {base : Nat} {h hc : Heap} {p p1 : Ph} {s0 s : St} {a : AS} {refs words : Nat} {v4 v27 v41 : Value} (hbs : base ≤ hc.size) (hh : h.size ≤ hc.size) (W : Stp base h hc p p1 s0 s) (pk : Pk p p1) (I : Inv s) (S : Sim s a) (el : s.limit = s0.limit) (er : s.room = s0.room)
    (hr : refs ≤ 100000) (hw : words ≤ 100000) (hro : s.room ≤ 100000) (hM : s.limit < s.used + (2 + refs + words) → Total a s.used) {Q : Value → Heap → Prop}
    (H1 : ∀ r h' p' s' R, Stp base h h' p p' s0 s' → Pk p p' → Inv s' → SimR s' (grow a refs words) R → R r a.things.length → r ≠ 0 → r < 4294967296 → s'.limit = s0.limit → s'.room = s0.room → Fits a (2 + refs + words) → Q (refV r) h')
    (H2 : ∀ h' p' s', Stp base h h' p p' s0 s' → Pk p p' → Inv s' → Sim s' a → s'.limit = s0.limit → s'.room = s0.room → ¬ Fits a (2 + refs + words) → Q (refV 0) h') :
    Cd.vc Try.prog C.h_Make_t1 (retQ Try.prog [(10, none)] Q) [(0, ptr p.H 0), (1, .int .i64 0), (2, .int .i64 (refs : Int)), (3, .int .i64 (words : Int)), (4, v4), (10, .int .u32 0), (11, .int .i64 ((2 + refs + words : Nat) : Int)), (12, undef), (27, v27), (41, v41), (55, undef), (76, undef)] hc := by
  have hul := I.ul
  have hll := I.ll
  have pH : p1.H = p.H := pk.2
  have l2 := W.rep.h2
  have l4 := W.rep.h4
  rw [pH] at l2 l4
  have w2 : IntKind.i64.wrap ((s.used : Int) + ((2 + refs + words : Nat) : Int)) = ((s.used + (2 + refs + words) : Nat) : Int) := by rw [wrap_i64 (by omega) (by omega)]; omega
  have lim : s.limit = a.limit := by obtain ⟨R, H⟩ := S; exact H.li
  by_cases c1 : (s.limit : Int) < ((s.used + (2 + refs + words) : Nat) : Int)
  · have hT := hM (by omega)
    simp (disch := first | omega | assumption) only [C.h_Make_gos, T.tv, ↓reduceIte, Nat.reduceEqDiff, reduceCtorEq, Nat.reduceLeDiff, Nat.reducePow, Int.reducePow, Int.reduceToNat, Nat.reduceAdd, C.h_Make_t1_go, l2, l4, w2, c1]
    refine H2 _ p1 s W pk I S el er ?_
    rintro ⟨t, h1, h2⟩
    have := h1.uniq hT
    omega
  · obtain ⟨t, ht, htu⟩ := total_le I S
    have hfit : Fits a (2 + refs + words) := ⟨t, ht, by omega⟩
    have z2 := W.rep.hz 2
    rw [pH] at z2
    simp (disch := first | omega | assumption) only [C.h_Make_gos, T.tv, ↓reduceIte, Nat.reduceEqDiff, reduceCtorEq, Nat.reduceLeDiff, Nat.reducePow, Int.reducePow, Int.reduceToNat, Nat.reduceAdd, C.h_Make_t1_go, l2, l4, w2, c1]
    refine eff_store1_z T.zr_3 rfl rfl rfl rfl rfl l2 z2 ?_
    have S2 := W.rep.used (s.used + (2 + refs + words))
    rw [pH] at S2
    have W2 := W.trans S2
    have hb2 : hc.size ≤ (setAt hc ⟨p.H, 2, none⟩ (.int .i64 ((s.used + (2 + refs + words) : Nat) : Int))).size := S2.fr.size
    have fd : ∀ k, foot p1 s k → k < hc.size := fun k hk => (W.rep.lt hk).2
    clear S2 l2 l4 z2
    generalize setAt hc ⟨p.H, 2, none⟩ (.int .i64 ((s.used + (2 + refs + words) : Nat) : Int)) = h2 at *
    simp (disch := first | omega | assumption) only [C.h_Make_gos, T.tv, ↓reduceIte, Nat.reduceEqDiff, reduceCtorEq, Nat.reduceLeDiff, Nat.reducePow, Int.reducePow, Int.reduceToNat, Nat.reduceAdd]
    obtain ⟨i7, hi7, z7⟩ : ∃ i7, Try.prog.info? 85 = some i7 ∧ i7.size = 7 := by
      obtain ⟨i7, z, h1, _, _, h4⟩ := zr_spec T.zr_85
      exact ⟨i7, h1, h4⟩
    have hbs2 : base ≤ h2.size := Nat.le_trans hbs hb2
    have fd2 : ∀ k, foot p1 s k → k < h2.size := fun k hk => Nat.lt_of_lt_of_le (fd k hk) hb2
    refine ⟨?_, ?_, ?_⟩
    · refine eff_mkref rfl rfl (by omega) ?_
      simp (disch := first | omega | assumption) only [C.h_Make_gos, T.tv, ↓reduceIte, Nat.reduceEqDiff, reduceCtorEq, Nat.reduceLeDiff, Nat.reducePow, Int.reducePow, Int.reduceToNat, Nat.reduceAdd, Nat.reduceEqDiff]
      refine ⟨?_, ?_⟩
      · refine eff_mkword rfl rfl (by omega) ?_
        simp (disch := first | omega | assumption) only [C.h_Make_gos, T.tv, ↓reduceIte, Nat.reduceEqDiff, reduceCtorEq, Nat.reduceLeDiff, Nat.reducePow, Int.reducePow, Int.reduceToNat, Nat.reduceAdd, Array.size_push]
        refine eff_alloc_z T.zr_85 ?_
        simp (disch := first | omega | assumption) only [C.h_Make_gos, T.tv, ↓reduceIte, Nat.reduceEqDiff, reduceCtorEq, Nat.reduceLeDiff, Nat.reducePow, Int.reducePow, Int.reduceToNat, Nat.reduceAdd, Array.size_push]
        have erow : (.cells #[.int .i64 0, .int .i64 0, .int .i64 0, .slice none 0 0, .slice none 0 0, .int .u32 0, .bool false] 85 (0, 0) : Obj) = .cells nul.row.toArray 85 (0, 0) := rfl
        rw [erow]
        have E5 : Ext h2 (((h2.push (.cells (List.replicate refs (refV 0)).toArray 51 (0, 0))).push (.cells (List.replicate words (wordV 0)).toArray 30 (0, 0))).push (.cells nul.row.toArray 85 (0, 0))) := ((Ext.push _ _).trans (Ext.push _ _)).trans (Ext.push _ _)
        have s5 : (((h2.push (.cells (List.replicate refs (refV 0)).toArray 51 (0, 0))).push (.cells (List.replicate words (wordV 0)).toArray 30 (0, 0))).push (.cells nul.row.toArray 85 (0, 0))).size = h2.size + 3 := by simp
        have k1 : (((h2.push (.cells (List.replicate refs (refV 0)).toArray 51 (0, 0))).push (.cells (List.replicate words (wordV 0)).toArray 30 (0, 0))).push (.cells nul.row.toArray 85 (0, 0)))[h2.size]? = some (.cells (List.replicate refs (refV 0)).toArray 51 (0, 0)) := push3_0
        have k2 : (((h2.push (.cells (List.replicate refs (refV 0)).toArray 51 (0, 0))).push (.cells (List.replicate words (wordV 0)).toArray 30 (0, 0))).push (.cells nul.row.toArray 85 (0, 0)))[(h2.size + 1)]? = some (.cells (List.replicate words (wordV 0)).toArray 30 (0, 0)) := push3_1
        have k3 : (((h2.push (.cells (List.replicate refs (refV 0)).toArray 51 (0, 0))).push (.cells (List.replicate words (wordV 0)).toArray 30 (0, 0))).push (.cells nul.row.toArray 85 (0, 0)))[(h2.size + 1 + 1)]? = some (.cells nul.row.toArray 85 (0, 0)) := push3_2
        generalize ((h2.push (.cells (List.replicate refs (refV 0)).toArray 51 (0, 0))).push (.cells (List.replicate words (wordV 0)).toArray 30 (0, 0))).push (.cells nul.row.toArray 85 (0, 0)) = h5 at *
        refine eff_storeN (cur := nul.row.toArray) (fz := (0, 0)) hi7 rfl rfl z7.symm (one_row (newC h2.size refs (h2.size + 1) words)) k3 (by rw [z7]; decide) (fun q _ _ => by simp) ?_
        intro h6 f6 e6 g6
        have g6 : h6[(h2.size + 1 + 1)]? = some (.cells (newC h2.size refs (h2.size + 1) words).row.toArray 85 (0, 0)) := by rw [g6, z7]; rfl
        have N := nw_of hbs2 W2 E5 f6 fd2 (by omega) (by omega) (by omega) (by omega) (by omega) (by omega) (by omega) (by omega) k1 k2 g6
        simp (disch := first | omega | assumption) only [C.h_Make_gos, T.tv, ↓reduceIte, Nat.reduceEqDiff, reduceCtorEq, Nat.reduceLeDiff, Nat.reducePow, Int.reducePow, Int.reduceToNat, Nat.reduceAdd]
        exact Make_t0 (Nat.le_trans (Nat.le_trans hbs2 E5.size) f6.size) N pk I S el er (by omega) hro fun r h' p' s' R a1 a2 a3 a4 a5 a6 a7 a8 a9 => H1 r h' p' s' R a1 a2 a3 a4 a5 a6 a7 a8 a9 hfit
      · refine eff_alloc_z T.zr_85 ?_
        simp (disch := first | omega | assumption) only [C.h_Make_gos, T.tv, ↓reduceIte, Nat.reduceEqDiff, reduceCtorEq, Nat.reduceLeDiff, Nat.reducePow, Int.reducePow, Int.reduceToNat, Nat.reduceAdd, Array.size_push]
        refine eff_mkword rfl rfl (by omega) ?_
        simp (disch := first | omega | assumption) only [C.h_Make_gos, T.tv, ↓reduceIte, Nat.reduceEqDiff, reduceCtorEq, Nat.reduceLeDiff, Nat.reducePow, Int.reducePow, Int.reduceToNat, Nat.reduceAdd, Array.size_push]
        have erow : (.cells #[.int .i64 0, .int .i64 0, .int .i64 0, .slice none 0 0, .slice none 0 0, .int .u32 0, .bool false] 85 (0, 0) : Obj) = .cells nul.row.toArray 85 (0, 0) := rfl
        rw [erow]
        have E5 : Ext h2 (((h2.push (.cells (List.replicate refs (refV 0)).toArray 51 (0, 0))).push (.cells nul.row.toArray 85 (0, 0))).push (.cells (List.replicate words (wordV 0)).toArray 30 (0, 0))) := ((Ext.push _ _).trans (Ext.push _ _)).trans (Ext.push _ _)
        have s5 : (((h2.push (.cells (List.replicate refs (refV 0)).toArray 51 (0, 0))).push (.cells nul.row.toArray 85 (0, 0))).push (.cells (List.replicate words (wordV 0)).toArray 30 (0, 0))).size = h2.size + 3 := by simp
        have k1 : (((h2.push (.cells (List.replicate refs (refV 0)).toArray 51 (0, 0))).push (.cells nul.row.toArray 85 (0, 0))).push (.cells (List.replicate words (wordV 0)).toArray 30 (0, 0)))[h2.size]? = some (.cells (List.replicate refs (refV 0)).toArray 51 (0, 0)) := push3_0
        have k2 : (((h2.push (.cells (List.replicate refs (refV 0)).toArray 51 (0, 0))).push (.cells nul.row.toArray 85 (0, 0))).push (.cells (List.replicate words (wordV 0)).toArray 30 (0, 0)))[(h2.size + 1 + 1)]? = some (.cells (List.replicate words (wordV 0)).toArray 30 (0, 0)) := push3_2
        have k3 : (((h2.push (.cells (List.replicate refs (refV 0)).toArray 51 (0, 0))).push (.cells nul.row.toArray 85 (0, 0))).push (.cells (List.replicate words (wordV 0)).toArray 30 (0, 0)))[(h2.size + 1)]? = some (.cells nul.row.toArray 85 (0, 0)) := push3_1
        generalize ((h2.push (.cells (List.replicate refs (refV 0)).toArray 51 (0, 0))).push (.cells nul.row.toArray 85 (0, 0))).push (.cells (List.replicate words (wordV 0)).toArray 30 (0, 0)) = h5 at *
        refine eff_storeN (cur := nul.row.toArray) (fz := (0, 0)) hi7 rfl rfl z7.symm (one_row (newC h2.size refs (h2.size + 1 + 1) words)) k3 (by rw [z7]; decide) (fun q _ _ => by simp) ?_
        intro h6 f6 e6 g6
        have g6 : h6[(h2.size + 1)]? = some (.cells (newC h2.size refs (h2.size + 1 + 1) words).row.toArray 85 (0, 0)) := by rw [g6, z7]; rfl
        have N := nw_of hbs2 W2 E5 f6 fd2 (by omega) (by omega) (by omega) (by omega) (by omega) (by omega) (by omega) (by omega) k1 k2 g6
        simp (disch := first | omega | assumption) only [C.h_Make_gos, T.tv, ↓reduceIte, Nat.reduceEqDiff, reduceCtorEq, Nat.reduceLeDiff, Nat.reducePow, Int.reducePow, Int.reduceToNat, Nat.reduceAdd]
        exact Make_t0 (Nat.le_trans (Nat.le_trans hbs2 E5.size) f6.size) N pk I S el er (by omega) hro fun r h' p' s' R a1 a2 a3 a4 a5 a6 a7 a8 a9 => H1 r h' p' s' R a1 a2 a3 a4 a5 a6 a7 a8 a9 hfit
    · refine eff_mkword rfl rfl (by omega) ?_
      simp (disch := first | omega | assumption) only [C.h_Make_gos, T.tv, ↓reduceIte, Nat.reduceEqDiff, reduceCtorEq, Nat.reduceLeDiff, Nat.reducePow, Int.reducePow, Int.reduceToNat, Nat.reduceAdd, Nat.reduceEqDiff]
      refine ⟨?_, ?_⟩
      · refine eff_mkref rfl rfl (by omega) ?_
        simp (disch := first | omega | assumption) only [C.h_Make_gos, T.tv, ↓reduceIte, Nat.reduceEqDiff, reduceCtorEq, Nat.reduceLeDiff, Nat.reducePow, Int.reducePow, Int.reduceToNat, Nat.reduceAdd, Array.size_push]
        refine eff_alloc_z T.zr_85 ?_
        simp (disch := first | omega | assumption) only [C.h_Make_gos, T.tv, ↓reduceIte, Nat.reduceEqDiff, reduceCtorEq, Nat.reduceLeDiff, Nat.reducePow, Int.reducePow, Int.reduceToNat, Nat.reduceAdd, Array.size_push]
        have erow : (.cells #[.int .i64 0, .int .i64 0, .int .i64 0, .slice none 0 0, .slice none 0 0, .int .u32 0, .bool false] 85 (0, 0) : Obj) = .cells nul.row.toArray 85 (0, 0) := rfl
        rw [erow]
        have E5 : Ext h2 (((h2.push (.cells (List.replicate words (wordV 0)).toArray 30 (0, 0))).push (.cells (List.replicate refs (refV 0)).toArray 51 (0, 0))).push (.cells nul.row.toArray 85 (0, 0))) := ((Ext.push _ _).trans (Ext.push _ _)).trans (Ext.push _ _)
        have s5 : (((h2.push (.cells (List.replicate words (wordV 0)).toArray 30 (0, 0))).push (.cells (List.replicate refs (refV 0)).toArray 51 (0, 0))).push (.cells nul.row.toArray 85 (0, 0))).size = h2.size + 3 := by simp
        have k1 : (((h2.push (.cells (List.replicate words (wordV 0)).toArray 30 (0, 0))).push (.cells (List.replicate refs (refV 0)).toArray 51 (0, 0))).push (.cells nul.row.toArray 85 (0, 0)))[(h2.size + 1)]? = some (.cells (List.replicate refs (refV 0)).toArray 51 (0, 0)) := push3_1
        have k2 : (((h2.push (.cells (List.replicate words (wordV 0)).toArray 30 (0, 0))).push (.cells (List.replicate refs (refV 0)).toArray 51 (0, 0))).push (.cells nul.row.toArray 85 (0, 0)))[h2.size]? = some (.cells (List.replicate words (wordV 0)).toArray 30 (0, 0)) := push3_0
        have k3 : (((h2.push (.cells (List.replicate words (wordV 0)).toArray 30 (0, 0))).push (.cells (List.replicate refs (refV 0)).toArray 51 (0, 0))).push (.cells nul.row.toArray 85 (0, 0)))[(h2.size + 1 + 1)]? = some (.cells nul.row.toArray 85 (0, 0)) := push3_2
        generalize ((h2.push (.cells (List.replicate words (wordV 0)).toArray 30 (0, 0))).push (.cells (List.replicate refs (refV 0)).toArray 51 (0, 0))).push (.cells nul.row.toArray 85 (0, 0)) = h5 at *
        refine eff_storeN (cur := nul.row.toArray) (fz := (0, 0)) hi7 rfl rfl z7.symm (one_row (newC (h2.size + 1) refs h2.size words)) k3 (by rw [z7]; decide) (fun q _ _ => by simp) ?_
        intro h6 f6 e6 g6
        have g6 : h6[(h2.size + 1 + 1)]? = some (.cells (newC (h2.size + 1) refs h2.size words).row.toArray 85 (0, 0)) := by rw [g6, z7]; rfl
        have N := nw_of hbs2 W2 E5 f6 fd2 (by omega) (by omega) (by omega) (by omega) (by omega) (by omega) (by omega) (by omega) k1 k2 g6
        simp (disch := first | omega | assumption) only [C.h_Make_gos, T.tv, ↓reduceIte, Nat.reduceEqDiff, reduceCtorEq, Nat.reduceLeDiff, Nat.reducePow, Int.reducePow, Int.reduceToNat, Nat.reduceAdd]
        exact Make_t0 (Nat.le_trans (Nat.le_trans hbs2 E5.size) f6.size) N pk I S el er (by omega) hro fun r h' p' s' R a1 a2 a3 a4 a5 a6 a7 a8 a9 => H1 r h' p' s' R a1 a2 a3 a4 a5 a6 a7 a8 a9 hfit
      · refine eff_alloc_z T.zr_85 ?_
        simp (disch := first | omega | assumption) only [C.h_Make_gos, T.tv, ↓reduceIte, Nat.reduceEqDiff, reduceCtorEq, Nat.reduceLeDiff, Nat.reducePow, Int.reducePow, Int.reduceToNat, Nat.reduceAdd, Array.size_push]
        refine eff_mkref rfl rfl (by omega) ?_
        simp (disch := first | omega | assumption) only [C.h_Make_gos, T.tv, ↓reduceIte, Nat.reduceEqDiff, reduceCtorEq, Nat.reduceLeDiff, Nat.reducePow, Int.reducePow, Int.reduceToNat, Nat.reduceAdd, Array.size_push]
        have erow : (.cells #[.int .i64 0, .int .i64 0, .int .i64 0, .slice none 0 0, .slice none 0 0, .int .u32 0, .bool false] 85 (0, 0) : Obj) = .cells nul.row.toArray 85 (0, 0) := rfl
        rw [erow]
        have E5 : Ext h2 (((h2.push (.cells (List.replicate words (wordV 0)).toArray 30 (0, 0))).push (.cells nul.row.toArray 85 (0, 0))).push (.cells (List.replicate refs (refV 0)).toArray 51 (0, 0))) := ((Ext.push _ _).trans (Ext.push _ _)).trans (Ext.push _ _)
        have s5 : (((h2.push (.cells (List.replicate words (wordV 0)).toArray 30 (0, 0))).push (.cells nul.row.toArray 85 (0, 0))).push (.cells (List.replicate refs (refV 0)).toArray 51 (0, 0))).size = h2.size + 3 := by simp
        have k1 : (((h2.push (.cells (List.replicate words (wordV 0)).toArray 30 (0, 0))).push (.cells nul.row.toArray 85 (0, 0))).push (.cells (List.replicate refs (refV 0)).toArray 51 (0, 0)))[(h2.size + 1 + 1)]? = some (.cells (List.replicate refs (refV 0)).toArray 51 (0, 0)) := push3_2
        have k2 : (((h2.push (.cells (List.replicate words (wordV 0)).toArray 30 (0, 0))).push (.cells nul.row.toArray 85 (0, 0))).push (.cells (List.replicate refs (refV 0)).toArray 51 (0, 0)))[h2.size]? = some (.cells (List.replicate words (wordV 0)).toArray 30 (0, 0)) := push3_0
        have k3 : (((h2.push (.cells (List.replicate words (wordV 0)).toArray 30 (0, 0))).push (.cells nul.row.toArray 85 (0, 0))).push (.cells (List.replicate refs (refV 0)).toArray 51 (0, 0)))[(h2.size + 1)]? = some (.cells nul.row.toArray 85 (0, 0)) := push3_1
        generalize ((h2.push (.cells (List.replicate words (wordV 0)).toArray 30 (0, 0))).push (.cells nul.row.toArray 85 (0, 0))).push (.cells (List.replicate refs (refV 0)).toArray 51 (0, 0)) = h5 at *
        refine eff_storeN (cur := nul.row.toArray) (fz := (0, 0)) hi7 rfl rfl z7.symm (one_row (newC (h2.size + 1 + 1) refs h2.size words)) k3 (by rw [z7]; decide) (fun q _ _ => by simp) ?_
        intro h6 f6 e6 g6
        have g6 : h6[(h2.size + 1)]? = some (.cells (newC (h2.size + 1 + 1) refs h2.size words).row.toArray 85 (0, 0)) := by rw [g6, z7]; rfl
        have N := nw_of hbs2 W2 E5 f6 fd2 (by omega) (by omega) (by omega) (by omega) (by omega) (by omega) (by omega) (by omega) k1 k2 g6
        simp (disch := first | omega | assumption) only [C.h_Make_gos, T.tv, ↓reduceIte, Nat.reduceEqDiff, reduceCtorEq, Nat.reduceLeDiff, Nat.reducePow, Int.reducePow, Int.reduceToNat, Nat.reduceAdd]
        exact Make_t0 (Nat.le_trans (Nat.le_trans hbs2 E5.size) f6.size) N pk I S el er (by omega) hro fun r h' p' s' R a1 a2 a3 a4 a5 a6 a7 a8 a9 => H1 r h' p' s' R a1 a2 a3 a4 a5 a6 a7 a8 a9 hfit
    · refine eff_alloc_z T.zr_85 ?_
      simp (disch := first | omega | assumption) only [C.h_Make_gos, T.tv, ↓reduceIte, Nat.reduceEqDiff, reduceCtorEq, Nat.reduceLeDiff, Nat.reducePow, Int.reducePow, Int.reduceToNat, Nat.reduceAdd, Nat.reduceEqDiff]
      refine ⟨?_, ?_⟩
      · refine eff_mkref rfl rfl (by omega) ?_
        simp (disch := first | omega | assumption) only [C.h_Make_gos, T.tv, ↓reduceIte, Nat.reduceEqDiff, reduceCtorEq, Nat.reduceLeDiff, Nat.reducePow, Int.reducePow, Int.reduceToNat, Nat.reduceAdd, Array.size_push]
        refine eff_mkword rfl rfl (by omega) ?_
        simp (disch := first | omega | assumption) only [C.h_Make_gos, T.tv, ↓reduceIte, Nat.reduceEqDiff, reduceCtorEq, Nat.reduceLeDiff, Nat.reducePow, Int.reducePow, Int.reduceToNat, Nat.reduceAdd, Array.size_push]
        have erow : (.cells #[.int .i64 0, .int .i64 0, .int .i64 0, .slice none 0 0, .slice none 0 0, .int .u32 0, .bool false] 85 (0, 0) : Obj) = .cells nul.row.toArray 85 (0, 0) := rfl
        rw [erow]
        have E5 : Ext h2 (((h2.push (.cells nul.row.toArray 85 (0, 0))).push (.cells (List.replicate refs (refV 0)).toArray 51 (0, 0))).push (.cells (List.replicate words (wordV 0)).toArray 30 (0, 0))) := ((Ext.push _ _).trans (Ext.push _ _)).trans (Ext.push _ _)
        have s5 : (((h2.push (.cells nul.row.toArray 85 (0, 0))).push (.cells (List.replicate refs (refV 0)).toArray 51 (0, 0))).push (.cells (List.replicate words (wordV 0)).toArray 30 (0, 0))).size = h2.size + 3 := by simp
        have k1 : (((h2.push (.cells nul.row.toArray 85 (0, 0))).push (.cells (List.replicate refs (refV 0)).toArray 51 (0, 0))).push (.cells (List.replicate words (wordV 0)).toArray 30 (0, 0)))[(h2.size + 1)]? = some (.cells (List.replicate refs (refV 0)).toArray 51 (0, 0)) := push3_1
        have k2 : (((h2.push (.cells nul.row.toArray 85 (0, 0))).push (.cells (List.replicate refs (refV 0)).toArray 51 (0, 0))).push (.cells (List.replicate words (wordV 0)).toArray 30 (0, 0)))[(h2.size + 1 + 1)]? = some (.cells (List.replicate words (wordV 0)).toArray 30 (0, 0)) := push3_2
        have k3 : (((h2.push (.cells nul.row.toArray 85 (0, 0))).push (.cells (List.replicate refs (refV 0)).toArray 51 (0, 0))).push (.cells (List.replicate words (wordV 0)).toArray 30 (0, 0)))[h2.size]? = some (.cells nul.row.toArray 85 (0, 0)) := push3_0
        generalize ((h2.push (.cells nul.row.toArray 85 (0, 0))).push (.cells (List.replicate refs (refV 0)).toArray 51 (0, 0))).push (.cells (List.replicate words (wordV 0)).toArray 30 (0, 0)) = h5 at *
        refine eff_storeN (cur := nul.row.toArray) (fz := (0, 0)) hi7 rfl rfl z7.symm (one_row (newC (h2.size + 1) refs (h2.size + 1 + 1) words)) k3 (by rw [z7]; decide) (fun q _ _ => by simp) ?_
        intro h6 f6 e6 g6
        have g6 : h6[h2.size]? = some (.cells (newC (h2.size + 1) refs (h2.size + 1 + 1) words).row.toArray 85 (0, 0)) := by rw [g6, z7]; rfl
        have N := nw_of hbs2 W2 E5 f6 fd2 (by omega) (by omega) (by omega) (by omega) (by omega) (by omega) (by omega) (by omega) k1 k2 g6
        simp (disch := first | omega | assumption) only [C.h_Make_gos, T.tv, ↓reduceIte, Nat.reduceEqDiff, reduceCtorEq, Nat.reduceLeDiff, Nat.reducePow, Int.reducePow, Int.reduceToNat, Nat.reduceAdd]
        exact Make_t0 (Nat.le_trans (Nat.le_trans hbs2 E5.size) f6.size) N pk I S el er (by omega) hro fun r h' p' s' R a1 a2 a3 a4 a5 a6 a7 a8 a9 => H1 r h' p' s' R a1 a2 a3 a4 a5 a6 a7 a8 a9 hfit
      · refine eff_mkword rfl rfl (by omega) ?_
        simp (disch := first | omega | assumption) only [C.h_Make_gos, T.tv, ↓reduceIte, Nat.reduceEqDiff, reduceCtorEq, Nat.reduceLeDiff, Nat.reducePow, Int.reducePow, Int.reduceToNat, Nat.reduceAdd, Array.size_push]
        refine eff_mkref rfl rfl (by omega) ?_
        simp (disch := first | omega | assumption) only [C.h_Make_gos, T.tv, ↓reduceIte, Nat.reduceEqDiff, reduceCtorEq, Nat.reduceLeDiff, Nat.reducePow, Int.reducePow, Int.reduceToNat, Nat.reduceAdd, Array.size_push]
        have erow : (.cells #[.int .i64 0, .int .i64 0, .int .i64 0, .slice none 0 0, .slice none 0 0, .int .u32 0, .bool false] 85 (0, 0) : Obj) = .cells nul.row.toArray 85 (0, 0) := rfl
        rw [erow]
        have E5 : Ext h2 (((h2.push (.cells nul.row.toArray 85 (0, 0))).push (.cells (List.replicate words (wordV 0)).toArray 30 (0, 0))).push (.cells (List.replicate refs (refV 0)).toArray 51 (0, 0))) := ((Ext.push _ _).trans (Ext.push _ _)).trans (Ext.push _ _)
        have s5 : (((h2.push (.cells nul.row.toArray 85 (0, 0))).push (.cells (List.replicate words (wordV 0)).toArray 30 (0, 0))).push (.cells (List.replicate refs (refV 0)).toArray 51 (0, 0))).size = h2.size + 3 := by simp
        have k1 : (((h2.push (.cells nul.row.toArray 85 (0, 0))).push (.cells (List.replicate words (wordV 0)).toArray 30 (0, 0))).push (.cells (List.replicate refs (refV 0)).toArray 51 (0, 0)))[(h2.size + 1 + 1)]? = some (.cells (List.replicate refs (refV 0)).toArray 51 (0, 0)) := push3_2
        have k2 : (((h2.push (.cells nul.row.toArray 85 (0, 0))).push (.cells (List.replicate words (wordV 0)).toArray 30 (0, 0))).push (.cells (List.replicate refs (refV 0)).toArray 51 (0, 0)))[(h2.size + 1)]? = some (.cells (List.replicate words (wordV 0)).toArray 30 (0, 0)) := push3_1
        have k3 : (((h2.push (.cells nul.row.toArray 85 (0, 0))).push (.cells (List.replicate words (wordV 0)).toArray 30 (0, 0))).push (.cells (List.replicate refs (refV 0)).toArray 51 (0, 0)))[h2.size]? = some (.cells nul.row.toArray 85 (0, 0)) := push3_0
        generalize ((h2.push (.cells nul.row.toArray 85 (0, 0))).push (.cells (List.replicate words (wordV 0)).toArray 30 (0, 0))).push (.cells (List.replicate refs (refV 0)).toArray 51 (0, 0)) = h5 at *
        refine eff_storeN (cur := nul.row.toArray) (fz := (0, 0)) hi7 rfl rfl z7.symm (one_row (newC (h2.size + 1 + 1) refs (h2.size + 1) words)) k3 (by rw [z7]; decide) (fun q _ _ => by simp) ?_
        intro h6 f6 e6 g6
        have g6 : h6[h2.size]? = some (.cells (newC (h2.size + 1 + 1) refs (h2.size + 1) words).row.toArray 85 (0, 0)) := by rw [g6, z7]; rfl
        have N := nw_of hbs2 W2 E5 f6 fd2 (by omega) (by omega) (by omega) (by omega) (by omega) (by omega) (by omega) (by omega) k1 k2 g6
        simp (disch := first | omega | assumption) only [C.h_Make_gos, T.tv, ↓reduceIte, Nat.reduceEqDiff, reduceCtorEq, Nat.reduceLeDiff, Nat.reducePow, Int.reducePow, Int.reduceToNat, Nat.reduceAdd]
        exact Make_t0 (Nat.le_trans (Nat.le_trans hbs2 E5.size) f6.size) N pk I S el er (by omega) hro fun r h' p' s' R a1 a2 a3 a4 a5 a6 a7 a8 a9 => H1 r h' p' s' R a1 a2 a3 a4 a5 a6 a7 a8 a9 hfit
set_option maxHeartbeats 2000000 in
theorem Make_t2 {base : Nat} {h hc : Heap} {p p1 : Ph} {s0 s : St} {a : AS} {refs words : Nat} {v27 : Value} (hbs : base ≤ hc.size) (hh : h.size ≤ hc.size) (W : Stp base h hc p p1 s0 s) (pk : Pk p p1) (I : Inv s) (S : Sim s a) (el : s.limit = s0.limit) (er : s.room = s0.room)
    (hr : refs ≤ 100000) (hw : words ≤ 100000) (hro : s.room ≤ 100000) {Q : Value → Heap → Prop}
    (H1 : ∀ r h' p' s' R, Stp base h h' p p' s0 s' → Pk p p' → Inv s' → SimR s' (grow a refs words) R → R r a.things.length → r ≠ 0 → r < 4294967296 → s'.limit = s0.limit → s'.room = s0.room → Fits a (2 + refs + words) → Q (refV r) h')
    (H2 : ∀ h' p' s', Stp base h h' p p' s0 s' → Pk p p' → Inv s' → Sim s' a → s'.limit = s0.limit → s'.room = s0.room → ¬ Fits a (2 + refs + words) → Q (refV 0) h') :
    Cd.vc Try.prog C.h_Make_t2 (retQ Try.prog [(10, none)] Q) [(0, ptr p.H 0), (1, .int .i64 0), (2, .int .i64 (refs : Int)), (3, .int .i64 (words : Int)), (4, .iface 26 (ptr p.S 0)), (10, .int .u32 0), (11, .int .i64 ((2 + refs + words : Nat) : Int)), (12, undef), (27, v27), (41, undef), (55, undef), (76, undef)] hc := by
  have hul := I.ul
  have hll := I.ll
  have pH : p1.H = p.H := pk.2
  have pS : p1.S = p.S := pk.1
  have l2 := W.rep.h2
  have l4 := W.rep.h4
  rw [pH] at l2 l4
  have w2 : IntKind.i64.wrap ((s.used : Int) + ((2 + refs + words : Nat) : Int)) = ((s.used + (2 + refs + words) : Nat) : Int) := by rw [wrap_i64 (by omega) (by omega)]; omega
  by_cases c1 : (s.limit : Int) < ((s.used + (2 + refs + words) : Nat) : Int)
  · simp (disch := first | omega | assumption) only [C.h_Make_gos, T.tv, ↓reduceIte, Nat.reduceEqDiff, reduceCtorEq, Nat.reduceLeDiff, Nat.reducePow, Int.reducePow, Int.reduceToNat, Nat.reduceAdd, C.h_Make_t2_go, l2, l4, w2, c1]
    have M := Major_any W.rep I S hbs
    rw [pH, pS] at M
    refine eff_callF rfl (M.mono ?_)
    rintro v h1 ⟨p2, s2, St2, pk2, I2, S2, T2, el2, er2⟩
    simp (disch := first | omega | assumption) only [C.h_Make_gos, T.tv, ↓reduceIte, Nat.reduceEqDiff, reduceCtorEq, Nat.reduceLeDiff, Nat.reducePow, Int.reducePow, Int.reduceToNat, Nat.reduceAdd]
    exact Make_t1 (Nat.le_trans hbs St2.fr.size) (Nat.le_trans hh St2.fr.size) (W.trans St2) (pk.trans pk2) I2 S2 (el2.trans el) (er2.trans er) hr hw (by rw [er2]; exact hro) (fun _ => T2) H1 H2
  · simp (disch := first | omega | assumption) only [C.h_Make_gos, T.tv, ↓reduceIte, Nat.reduceEqDiff, reduceCtorEq, Nat.reduceLeDiff, Nat.reducePow, Int.reducePow, Int.reduceToNat, Nat.reduceAdd, C.h_Make_t2_go, l2, l4, w2, c1]
    exact Make_t1 hbs hh W pk I S el er hr hw hro (fun h => by omega) H1 H2
set_option maxHeartbeats 2000000 in
theorem Make_any {base : Nat} {h : Heap} {p : Ph} {s0 : St} {a : AS} {refs words : Nat} (R : Rep base h p s0) (I : Inv s0) (S : Sim s0 a) (hbs : base ≤ h.size) (hr : refs ≤ 100000) (hw : words ≤ 100000) (hro : s0.room ≤ 100000) {Q : Value → Heap → Prop}
    (H1 : ∀ r h' p' s' R, Stp base h h' p p' s0 s' → Pk p p' → Inv s' → SimR s' (grow a refs words) R → R r a.things.length → r ≠ 0 → r < 4294967296 → s'.limit = s0.limit → s'.room = s0.room → Fits a (2 + refs + words) → Q (refV r) h')
    (H2 : ∀ h' p' s', Stp base h h' p p' s0 s' → Pk p p' → Inv s' → Sim s' a → s'.limit = s0.limit → s'.room = s0.room → ¬ Fits a (2 + refs + words) → Q (refV 0) h') :
    HCalls Try.prog 34 #[ptr p.H 0, .int .i64 0, .int .i64 (refs : Int), .int .i64 (words : Int), .iface 26 (ptr p.S 0)] h Q := by
  refine C.h_Make_calls (args := [ptr p.H 0, .int .i64 0, .int .i64 (refs : Int), .int .i64 (words : Int), .iface 26 (ptr p.S 0)]) rfl ?_
  have il := I.len
  have hul := I.ul
  have hll := I.ll
  have l3 := R.h3
  have l5 := R.h5
  have w1 : IntKind.i64.wrap (2 + (refs : Int)) = 2 + (refs : Int) := wrap_i64 (by omega) (by omega)
  have w2 : IntKind.i64.wrap (2 + (refs : Int) + (words : Int)) = ((2 + refs + words : Nat) : Int) := by rw [wrap_i64 (by omega) (by omega)]; omega
  have w3 : IntKind.i64.wrap ((s0.fresh : Int) + ((2 + refs + words : Nat) : Int)) = ((s0.fresh + (2 + refs + words) : Nat) : Int) := by rw [wrap_i64 (by omega) (by omega)]; omega
  by_cases c1 : (s0.room : Int) < ((s0.fresh + (2 + refs + words) : Nat) : Int)
  · simp (disch := first | omega | assumption) only [C.h_Make_gos, T.tv, ↓reduceIte, Nat.reduceEqDiff, reduceCtorEq, Nat.reduceLeDiff, Nat.reducePow, Int.reducePow, Int.reduceToNat, Nat.reduceAdd, w1, w2, w3, l3, l5, c1]
    refine eff_callF rfl ((Minor_any R I S hbs).mono ?_)
    rintro v h1 ⟨p1, s1, St1, pk1, I1, S1, _, _, el1, er1⟩
    simp (disch := first | omega | assumption) only [C.h_Make_gos, T.tv, ↓reduceIte, Nat.reduceEqDiff, reduceCtorEq, Nat.reduceLeDiff, Nat.reducePow, Int.reducePow, Int.reduceToNat, Nat.reduceAdd]
    exact Make_t2 (Nat.le_trans hbs St1.fr.size) St1.fr.size St1 pk1 I1 S1 el1 er1 hr hw (by rw [er1]; exact hro) H1 H2
  · simp (disch := first | omega | assumption) only [C.h_Make_gos, T.tv, ↓reduceIte, Nat.reduceEqDiff, reduceCtorEq, Nat.reduceLeDiff, Nat.reducePow, Int.reducePow, Int.reduceToNat, Nat.reduceAdd, w1, w2, w3, l3, l5, c1]
    exact Make_t2 hbs (Nat.le_refl _) (Stp.refl R) Pk.refl I S rfl rfl hr hw hro H1 H2
end Go.Proofs.Ytidkokdkldfglaa

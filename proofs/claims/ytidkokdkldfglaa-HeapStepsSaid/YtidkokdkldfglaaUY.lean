/- A space made, a thing made at a place, all looked at: by the program. No condition. -/
import Derived.Test.YtidkokdkldfglaaUX
namespace Go.Proofs.Ytidkokdkldfglaa
open Go.Vc
set_option maxRecDepth 100000
set_option linter.unusedSimpArgs false
set_option linter.unusedVariables false

theorem mk_sp {v : Value} {h : Heap} : mkI Try.prog 26 v h = some (.iface 26 v) := mkI_of (by kernel_rfl)
section
variable {base : Nat} {h : Heap} {p : Ph} {s : St} {a : AS}
theorem Used_any (R : Rep base h p s) : HCalls Try.prog 30 #[ptr p.H 0] h fun v h' => h' = h ∧ v = .int .i64 (s.used : Int) := by
  refine C.h_Used_calls (args := [ptr p.H 0]) rfl ?_
  have l := R.h2
  simp (disch := first | omega | assumption) only [C.h_Used_gos, T.tv, ↓reduceIte, Nat.reduceEqDiff, reduceCtorEq, Nat.reduceLeDiff, Nat.reducePow, Int.reducePow, Int.reduceToNat, Nat.reduceAdd, l]
theorem sMinor_any (G : Gd base h p s a) : HCalls Try.prog 7 #[ptr p.S 0, .bool false] h fun v h' => Nx base h h' p s a ∧ v = .int .i64 0 := by
  refine C.s_Collect_calls (args := [ptr p.S 0, .bool false]) rfl ?_
  have l := G.r.s0
  simp (disch := first | omega | assumption) only [C.s_Collect_gos, T.tv, ↓reduceIte, Nat.reduceEqDiff, reduceCtorEq, Nat.reduceLeDiff, Nat.reducePow, Int.reducePow, Int.reduceToNat, Nat.reduceAdd, l, rdo_iface, mk_sp]
  refine eff_callF rfl ((Minor_any G.r G.i G.m G.b).mono ?_)
  rintro v h1 ⟨p1, s1, St1, pk1, I1, S1, _, _, el1, er1⟩
  simp (disch := first | omega | assumption) only [C.s_Collect_gos, T.tv, ↓reduceIte, Nat.reduceEqDiff, reduceCtorEq, Nat.reduceLeDiff, Nat.reducePow, Int.reducePow, Int.reduceToNat, Nat.reduceAdd]
  have N : Nx base h h1 p s a := ⟨p1, s1, St1, pk1, I1, S1, er1⟩
  first | exact N | exact ⟨N, rfl⟩
theorem sMajor_any (G : Gd base h p s a) : HCalls Try.prog 7 #[ptr p.S 0, .bool true] h fun v h' => Nx base h h' p s a ∧ ∃ n, Total a n ∧ v = .int .i64 (n : Int) := by
  refine C.s_Collect_calls (args := [ptr p.S 0, .bool true]) rfl ?_
  have l := G.r.s0
  simp (disch := first | omega | assumption) only [C.s_Collect_gos, T.tv, ↓reduceIte, Nat.reduceEqDiff, reduceCtorEq, Nat.reduceLeDiff, Nat.reducePow, Int.reducePow, Int.reduceToNat, Nat.reduceAdd, l, rdo_iface, mk_sp]
  refine eff_callF rfl ((Major_any G.r G.i G.m G.b).mono ?_)
  rintro v h1 ⟨p1, s1, St1, pk1, I1, S1, T1, el1, er1⟩
  have l' : cellAt h1 ⟨p.S, 0, none⟩ = some (ptr p.H 0) := by have := St1.rep.s0; rw [pk1.1, pk1.2] at this; exact this
  have U := Used_any St1.rep
  rw [pk1.2] at U
  simp (disch := first | omega | assumption) only [C.s_Collect_gos, T.tv, ↓reduceIte, Nat.reduceEqDiff, reduceCtorEq, Nat.reduceLeDiff, Nat.reducePow, Int.reducePow, Int.reduceToNat, Nat.reduceAdd, l']
  refine eff_callF rfl (U.mono ?_)
  rintro v2 h2 ⟨rfl, rfl⟩
  simp (disch := first | omega | assumption) only [C.s_Collect_gos, T.tv, ↓reduceIte, Nat.reduceEqDiff, reduceCtorEq, Nat.reduceLeDiff, Nat.reducePow, Int.reducePow, Int.reduceToNat, Nat.reduceAdd]
  have N : Nx base h h2 p s a := ⟨p1, s1, St1, pk1, I1, S1, er1⟩
  exact ⟨N, s1.used, T1, rfl⟩
set_option maxHeartbeats 2000000 in
theorem sMake_any (G : Gd base h p s a) {k r w : Int} : HCalls Try.prog 10 #[ptr p.S 0, .int .i64 k, .int .i64 r, .int .i64 w] h fun v h' => Nx base h h' p s (aMake a k r w).1 ∧ v = .int .i64 (aMake a k r w).2 := by
  refine C.s_Make_calls (args := [ptr p.S 0, .int .i64 k, .int .i64 r, .int .i64 w]) rfl ?_
  have lim : s.limit = a.limit := by obtain ⟨R, H⟩ := G.m; exact H.li
  have hll := G.i.ll
  have l0 := G.r.s0
  have l4 := G.r.h4
  by_cases c0 : ¬ inR k ∨ r < 0 ∨ w < 0
  · have e : aMake a k r w = (a, 7) := by unfold aMake; rw [if_pos c0]
    rw [e]
    unfold inR at c0
    by_cases c1 : k < 0
    · simp (disch := first | omega | assumption) only [C.s_Make_gos, T.tv, ↓reduceIte, Nat.reduceEqDiff, reduceCtorEq, Nat.reduceLeDiff, Nat.reducePow, Int.reducePow, Int.reduceToNat, Nat.reduceAdd, c1]
      first | exact G.stay | exact ⟨G.stay, rfl⟩
    by_cases c2 : 16 ≤ k
    · simp (disch := first | omega | assumption) only [C.s_Make_gos, T.tv, ↓reduceIte, Nat.reduceEqDiff, reduceCtorEq, Nat.reduceLeDiff, Nat.reducePow, Int.reducePow, Int.reduceToNat, Nat.reduceAdd, c1, c2]
      first | exact G.stay | exact ⟨G.stay, rfl⟩
    by_cases c3 : r < 0
    · simp (disch := first | omega | assumption) only [C.s_Make_gos, T.tv, ↓reduceIte, Nat.reduceEqDiff, reduceCtorEq, Nat.reduceLeDiff, Nat.reducePow, Int.reducePow, Int.reduceToNat, Nat.reduceAdd, c1, c2, c3]
      first | exact G.stay | exact ⟨G.stay, rfl⟩
    have c4 : w < 0 := by omega
    simp (disch := first | omega | assumption) only [C.s_Make_gos, T.tv, ↓reduceIte, Nat.reduceEqDiff, reduceCtorEq, Nat.reduceLeDiff, Nat.reducePow, Int.reducePow, Int.reduceToNat, Nat.reduceAdd, c1, c2, c3, c4]
    first | exact G.stay | exact ⟨G.stay, rfl⟩
  · unfold inR at c0
    have c1 : ¬ k < 0 := by omega
    have c2 : ¬ 16 ≤ k := by omega
    have c3 : ¬ r < 0 := by omega
    have c4 : ¬ w < 0 := by omega
    by_cases d0 : (a.limit : Int) < r ∨ (a.limit : Int) < w
    · have e : aMake a k r w = (a, 28) := by unfold aMake; rw [if_neg (by unfold inR; exact c0), if_pos d0]
      rw [e]
      rw [← lim] at d0
      by_cases d1 : (s.limit : Int) < r
      · simp (disch := first | omega | assumption) only [C.s_Make_gos, T.tv, ↓reduceIte, Nat.reduceEqDiff, reduceCtorEq, Nat.reduceLeDiff, Nat.reducePow, Int.reducePow, Int.reduceToNat, Nat.reduceAdd, c1, c2, c3, c4, l0, l4, d1]
        first | exact G.stay | exact ⟨G.stay, rfl⟩
      have d2 : (s.limit : Int) < w := by omega
      simp (disch := first | omega | assumption) only [C.s_Make_gos, T.tv, ↓reduceIte, Nat.reduceEqDiff, reduceCtorEq, Nat.reduceLeDiff, Nat.reducePow, Int.reducePow, Int.reduceToNat, Nat.reduceAdd, c1, c2, c3, c4, l0, l4, d1, d2]
      first | exact G.stay | exact ⟨G.stay, rfl⟩
    · have d1 : ¬ (s.limit : Int) < r := by rw [lim]; omega
      have d2 : ¬ (s.limit : Int) < w := by rw [lim]; omega
      obtain ⟨rn, rfl⟩ : ∃ rn : Nat, r = rn := ⟨r.toNat, by omega⟩
      obtain ⟨wn, rfl⟩ : ∃ wn : Nat, w = wn := ⟨w.toNat, by omega⟩
      obtain ⟨n, rfl⟩ : ∃ n : Nat, k = n := ⟨k.toNat, by omega⟩
      have b1 : (0 : Int) ≤ (n : Int) := by omega
      have b2 : (n : Int) < ((16 : Nat) : Int) := by omega
      have eM : aMake a (n : Int) (rn : Int) (wn : Int) = (@ite _ (Fits a (2 + rn + wn)) (Classical.propDecidable _) ({ grow a rn wn with roots := a.roots.set n a.things.length }, 0) (a, 28)) := by
        unfold aMake; rw [if_neg (by unfold inR; exact c0), if_neg d0]; rfl
      rw [eM]
      simp (disch := first | omega | assumption) only [C.s_Make_gos, T.tv, ↓reduceIte, Nat.reduceEqDiff, reduceCtorEq, Nat.reduceLeDiff, Nat.reducePow, Int.reducePow, Int.reduceToNat, Nat.reduceAdd, c1, c2, c3, c4, l0, l4, d1, d2, rdo_iface, mk_sp]
      refine eff_callF rfl (Make_any G.r G.i G.m G.b (by omega) (by omega) G.ro ?_ ?_)
      · intro q h' p' s' R St pk I' M' hq q0 q32 el er hf
        rw [if_pos hf]
        have q0' : ¬ (q : Int) = 0 := by omega
        have hrt : n < s'.roots.length := by rw [I'.rt]; omega
        have hrk : s'.roots[n]? = some s'.roots[n] := by simp
        have lr := St.rep.sk hrk
        have zr := St.rep.sz (1 + n)
        rw [pk.1] at lr zr
        simp (disch := first | omega | assumption) only [C.s_Make_gos, T.tv, ↓reduceIte, Nat.reduceEqDiff, reduceCtorEq, Nat.reduceLeDiff, Nat.reducePow, Int.reducePow, Int.reduceToNat, Nat.reduceAdd, refV, q0', ia_rt, b1, b2]
        refine eff_store1_z T.zr_51 rfl rfl rfl rfl rfl lr zr ?_
        simp (disch := first | omega | assumption) only [C.s_Make_gos, T.tv, ↓reduceIte, Nat.reduceEqDiff, reduceCtorEq, Nat.reduceLeDiff, Nat.reducePow, Int.reducePow, Int.reduceToNat, Nat.reduceAdd]
        have S2 := St.rep.root hrt q
        rw [pk.1] at S2
        have N : Nx base h (setAt h' ⟨p.S, 1 + n, none⟩ (refV q)) p s { grow a rn wn with roots := a.roots.set n a.things.length } :=
          ⟨p', _, St.trans S2, pk, I'.root (M'.valid I' hq) n, ⟨R, M'.root hq n⟩, er⟩
        first | exact N | exact ⟨N, rfl⟩
      · intro h' p' s' St pk I' M' el er hf
        rw [if_neg hf]
        have z0 : ((0 : Nat) : Int) = 0 := rfl
        simp (disch := first | omega | assumption) only [C.s_Make_gos, T.tv, ↓reduceIte, Nat.reduceEqDiff, reduceCtorEq, Nat.reduceLeDiff, Nat.reducePow, Int.reducePow, Int.reduceToNat, Nat.reduceAdd, refV, z0]
        have N : Nx base h h' p s a := ⟨p', s', St, pk, I', M', er⟩
        first | exact N | exact ⟨N, rfl⟩
def a0 (n : Nat) : AS := ⟨[([], [])], List.replicate 16 0, n⟩
def s00 (n m : Nat) : St := ⟨[nul], [nul], 0, 0, n, m, [], List.replicate 16 0, fun _ => none, fun _ => none⟩
theorem inv0 {n m : Nat} (hn : n ≤ 16384) : Inv (s00 n m) := by
  have lk : ∀ r c, look (s00 n m) r = some c → (r = 0 ∨ r = 2147483648) ∧ c = nul := by
    intro r c h
    unfold look s00 at h
    simp only at h
    split at h
    · have hl := (List.getElem?_eq_some_iff.1 h).1
      simp only [List.length_cons, List.length_nil] at hl
      have : r = 0 := by omega
      subst this; cases h; exact ⟨.inl rfl, rfl⟩
    · have hl := (List.getElem?_eq_some_iff.1 h).1
      simp only [List.length_cons, List.length_nil] at hl
      have : r - 2147483648 = 0 := by omega
      rw [this] at h; cases h; exact ⟨.inr (by omega), rfl⟩
  have gt : ∀ (k : Nat) c, [nul][k]? = some c → c = nul := by
    intro k c h
    cases k with
    | zero => cases h; rfl
    | succ k => simp at h
  have v0 : valid (s00 n m) 0 := .inl ⟨by decide, by show 0 < 1; decide⟩
  refine ⟨rfl, rfl, rfl, fun r hr => ?_, fun r c h0 hv hl => ?_, fun r c hl => by rw [(lk r c hl).2]; rfl, fun r r' c c' g h1 h2 h3 => ?_, fun r r' c c' g h1 h2 h3 => ?_, fun k c hk hs => ?_, fun k c hk => by rw [gt k c hk]; rfl, fun k c hk x hx => ?_, fun k hk => (by cases hk), rfl, rfl, rfl, Nat.zero_le _, hn⟩
  · rw [List.eq_of_mem_replicate hr]; exact v0
  · rcases (lk r c hl).1 with e | e
    · exact absurd e h0
    · rcases hv with h | h
      · omega
      · omega
  · rw [(lk r c h1).2] at h3; cases h3
  · rw [(lk r c h1).2] at h3; cases h3
  · rw [gt k c hk] at hs; cases hs
  · rw [gt k c hk] at hx; simp [rl, nul] at hx
theorem sim0 {n m : Nat} : Sim (s00 n m) (a0 n) := by
  refine ⟨fun r t => r = 0 ∧ t = 0, ⟨rfl, rfl⟩, fun r t h => ⟨fun _ => h.2, fun _ => h.1⟩, fun r t t' h h' => h.2.trans h'.2.symm, fun r r' t h h' => h.1.trans h'.1.symm, fun r t h h0 => absurd h.1 h0, ⟨rfl, fun i x y hx hy => ?_⟩, rfl, rfl⟩
  exact ⟨List.eq_of_mem_replicate (List.mem_of_getElem? hx), List.eq_of_mem_replicate (List.mem_of_getElem? hy)⟩
end
theorem bl_sp {q : Option Addr} {h : Heap} : bldE Try.prog 54 [0] [.pointer q] h = some (.agg (.pointer q :: List.replicate 16 (.int .u32 0)).toArray) := bldE_of (by kernel_rfl)
theorem eff_mkcell {τ ρ : Env} {h : Heap} {K : Value → Heap → Prop} {ty : TypeId} (H : K (.slice (some ⟨h.size, 0, none⟩) 1 1) (h.push (.cells nul.row.toArray 85 (0, 0)))) :
    eff Try.prog (.makeSlice 67 (.const (.int .i64 1)) (.const (.int .i64 1))) ty τ ρ h K := by
  refine eff_make T.slT_67 (n := 1) rfl rfl (by decide) (by decide) (by decide) ?_
  intro cs z i h1 h2 h3
  obtain ⟨i', z', u1, u2, u3, _⟩ := zr_spec T.zr_85
  rw [u1] at h1; cases h1
  rw [u2] at h2; cases h2
  have e : madeCells z.cells ((1 : Int).toNat * 7) = nul.row.toArray := by
    rw [u3]
    apply Array.ext
    · simp [madeCells, nul, CP.row]
    · intro i g1 g2
      have g3 : i < 7 := g2
      rcases (by omega : i = 0 ∨ i = 1 ∨ i = 2 ∨ i = 3 ∨ i = 4 ∨ i = 5 ∨ i = 6) with e | e | e | e | e | e | e <;> subst e <;> simp [madeCells, nul, CP.row, sv]
  rw [e] at h3
  subst h3
  exact H
theorem sNew_any {h : Heap} {n m : Nat} (hn : n ≤ 16384) (hm : m ≤ 100000) : HCalls Try.prog 9 #[.int .i64 (n : Int), .int .i64 (m : Int)] h fun v h' => Ext h h' ∧ ∃ p s, v = ptr p.S 0 ∧ Gd h.size h' p s (a0 n) ∧ s.room = m ∧ ∀ k, foot p s k → h.size ≤ k := by
  refine C.s_New_calls (args := [.int .i64 (n : Int), .int .i64 (m : Int)]) rfl ?_
  simp (disch := first | omega | assumption) only [C.s_New_gos, T.tv, ↓reduceIte, Nat.reduceEqDiff, reduceCtorEq, Nat.reduceLeDiff, Nat.reducePow, Int.reducePow, Int.reduceToNat, Nat.reduceAdd]
  refine eff_callF rfl (HCalls.mono (R := fun v h1 => Ext h h1 ∧ ∃ H Y O, v = ptr H 0 ∧ h.size ≤ H ∧ h.size ≤ Y ∧ h.size ≤ O ∧ Y ≠ O ∧ h1[Y]? = some (.cells nul.row.toArray 85 (0, 0)) ∧ h1[O]? = some (.cells nul.row.toArray 85 (0, 0)) ∧
    h1[H]? = some (.cells #[.slice (some ⟨Y, 0, none⟩) 1 1, .slice (some ⟨O, 0, none⟩) 1 1, .int .i64 0, .int .i64 0, .int .i64 (n : Int), .int .i64 (m : Int), .slice none 0 0] 70 (0, 0))) ?_ ?_)
  · refine C.h_New_calls (args := [.int .i64 (n : Int), .int .i64 (m : Int)]) rfl ?_
    simp (disch := first | omega | assumption) only [C.h_New_gos, T.tv, ↓reduceIte, Nat.reduceEqDiff, reduceCtorEq, Nat.reduceLeDiff, Nat.reducePow, Int.reducePow, Int.reduceToNat, Nat.reduceAdd]
    refine ⟨?_, ?_⟩
    · refine eff_mkcell ?_
      simp (disch := first | omega | assumption) only [C.h_New_gos, T.tv, ↓reduceIte, Nat.reduceEqDiff, reduceCtorEq, Nat.reduceLeDiff, Nat.reducePow, Int.reducePow, Int.reduceToNat, Nat.reduceAdd, Array.size_push]
      refine eff_mkcell ?_
      simp (disch := first | omega | assumption) only [C.h_New_gos, T.tv, ↓reduceIte, Nat.reduceEqDiff, reduceCtorEq, Nat.reduceLeDiff, Nat.reducePow, Int.reducePow, Int.reduceToNat, Nat.reduceAdd, Array.size_push]
      refine eff_box ?_
      simp (disch := first | omega | assumption) only [C.h_New_gos, T.tv, ↓reduceIte, Nat.reduceEqDiff, reduceCtorEq, Nat.reduceLeDiff, Nat.reducePow, Int.reducePow, Int.reduceToNat, Nat.reduceAdd, Array.size_push]
      refine ⟨((Ext.push _ _).trans (Ext.push _ _)).trans (Ext.push _ _), h.size + 1 + 1, h.size, h.size + 1, rfl, by omega, by omega, by omega, by omega, push3_0, push3_1, push3_2⟩
    · refine eff_mkcell ?_
      simp (disch := first | omega | assumption) only [C.h_New_gos, T.tv, ↓reduceIte, Nat.reduceEqDiff, reduceCtorEq, Nat.reduceLeDiff, Nat.reducePow, Int.reducePow, Int.reduceToNat, Nat.reduceAdd, Array.size_push]
      refine eff_mkcell ?_
      simp (disch := first | omega | assumption) only [C.h_New_gos, T.tv, ↓reduceIte, Nat.reduceEqDiff, reduceCtorEq, Nat.reduceLeDiff, Nat.reducePow, Int.reducePow, Int.reduceToNat, Nat.reduceAdd, Array.size_push]
      refine eff_box ?_
      simp (disch := first | omega | assumption) only [C.h_New_gos, T.tv, ↓reduceIte, Nat.reduceEqDiff, reduceCtorEq, Nat.reduceLeDiff, Nat.reducePow, Int.reducePow, Int.reduceToNat, Nat.reduceAdd, Array.size_push]
      refine ⟨((Ext.push _ _).trans (Ext.push _ _)).trans (Ext.push _ _), h.size + 1 + 1, h.size + 1, h.size, rfl, by omega, by omega, by omega, by omega, push3_1, push3_0, push3_2⟩
  · rintro v h1 ⟨X1, H, Y, O, rfl, hH, hY, hO, hYO, e1, e2, e3⟩
    simp (disch := first | omega | assumption) only [C.s_New_gos, T.tv, ↓reduceIte, Nat.reduceEqDiff, reduceCtorEq, Nat.reduceLeDiff, Nat.reducePow, Int.reducePow, Int.reduceToNat, Nat.reduceAdd, bl_sp]
    refine eff_box ?_
    simp (disch := first | omega | assumption) only [C.s_New_gos, T.tv, ↓reduceIte, Nat.reduceEqDiff, reduceCtorEq, Nat.reduceLeDiff, Nat.reducePow, Int.reducePow, Int.reduceToNat, Nat.reduceAdd]
    have X2 := Ext.push h1 (.cells (.pointer (some ⟨H, 0, none⟩) :: List.replicate 16 (.int .u32 0)).toArray 54 (0, 0))
    have lt : ∀ {k : Nat} {o : Obj}, h1[k]? = some o → k < h1.size := fun hx => (Array.getElem?_eq_some_iff.1 hx).1
    have hh := X1.size
    have own : ∀ {Z : Nat}, h.size ≤ Z → h1[Z]? = some (.cells nul.row.toArray 85 (0, 0)) → Own h1 h.size 85 7 (.slice (some ⟨Z, 0, none⟩) 1 1) 1 (rows [nul]) := fun hz ez =>
      ⟨rfl, .inr ⟨_, 1, nul.row.toArray, (0, 0), rfl, hz, ez, by simp, Nat.le_refl _, by decide, rfl, rfl⟩⟩
    have R : Rep h.size (h1.push (.cells (.pointer (some ⟨H, 0, none⟩) :: List.replicate 16 (.int .u32 0)).toArray 54 (0, 0))) ⟨h1.size, H, Y, 1, O, 1, .slice none 0 0⟩ (s00 n m) := by
      refine ⟨?_, ?_, (own hY e1).ext X2, (own hO e2).ext X2, Own.nil, fun g l hg => (by cases hg), fun g l hg => (by cases hg), hYO, hh, hH⟩
      · rw [Array.getElem?_push, if_pos rfl]; rfl
      · rw [X2.same H (lt e3) id]; exact e3
    refine ⟨X1.trans X2, ⟨h1.size, H, Y, 1, O, 1, .slice none 0 0⟩, s00 n m, rfl, ⟨R, inv0 hn, sim0, hm, by have := X2.size; omega⟩, rfl, fun k hk => (R.lt hk).1⟩
end Go.Proofs.Ytidkokdkldfglaa

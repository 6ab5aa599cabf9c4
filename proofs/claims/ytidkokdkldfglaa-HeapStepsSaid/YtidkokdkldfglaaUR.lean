/- All looked at, by the program: the end, and the beginning. No condition. -/
import Derived.Test.YtidkokdkldfglaaUT
namespace Go.Proofs.Ytidkokdkldfglaa
open Go.Vc
set_option maxRecDepth 100000
set_option linter.unusedSimpArgs false
set_option linter.unusedVariables false

set_option maxHeartbeats 2000000 in
theorem Major_any {base : Nat} {h : Heap} {p : Ph} {s0 : St} {a : AS} (R : Rep base h p s0) (I : Inv s0) (S : Sim s0 a) (hbs : base ≤ h.size) :
    HCalls Try.prog 29 #[ptr p.H 0, .iface 26 (ptr p.S 0)] h fun v h' => ∃ p' s', Stp base h h' p p' s0 s' ∧ Pk p p' ∧ Inv s' ∧ Sim s' a ∧ Total a s'.used ∧ s'.limit = s0.limit ∧ s'.room = s0.room := by
  refine C.h_Major_calls (args := [ptr p.H 0, .iface 26 (ptr p.S 0)]) rfl ?_
  simp (disch := first | omega | assumption) only [C.h_Major_gos, T.tv, ↓reduceIte, Nat.reduceEqDiff, reduceCtorEq, Nat.reduceLeDiff, Nat.reducePow, Int.reducePow, Int.reduceToNat, Nat.reduceAdd]
  refine eff_box ?_
  have B0 := Bx.new R
  have X0 := Ext.push h (.cells #[ptr p.H 0] 49 (0, 0))
  have R0 := R.ext X0
  obtain ⟨b, hb⟩ : ∃ b, b = h.size := ⟨_, rfl⟩
  have hbs0 : base ≤ (h.push (.cells #[ptr p.H 0] 49 (0, 0))).size := Nat.le_trans hbs X0.size
  simp (disch := first | omega | assumption) only [C.h_Major_gos, T.tv, ↓reduceIte, Nat.reduceEqDiff, reduceCtorEq, Nat.reduceLeDiff, Nat.reducePow, Int.reducePow, Int.reduceToNat, Nat.reduceAdd]
  rw [← hb]
  rw [← hb] at B0
  generalize h.push (.cells #[ptr p.H 0] 49 (0, 0)) = h1 at *
  have bx := B0.get
  simp (disch := first | omega | assumption) only [C.h_Major_gos, T.tv, ↓reduceIte, Nat.reduceEqDiff, reduceCtorEq, Nat.reduceLeDiff, Nat.reducePow, Int.reducePow, Int.reduceToNat, Nat.reduceAdd, bx]
  refine eff_callF rfl ((Minor_any R0 I S hbs0).mono ?_)
  rintro v h2 ⟨p1, s1, St1, Pk1, I1, S1, y1, f1, l1, o1⟩
  have B1 := B0.stp St1 Pk1
  have W1 := Stp.pre X0 St1
  have R1 := St1.rep
  have hb2 : h1.size ≤ h2.size := St1.fr.size
  simp (disch := first | omega | assumption) only [C.h_Major_gos, T.tv, ↓reduceIte, Nat.reduceEqDiff, reduceCtorEq, Nat.reduceLeDiff, Nat.reducePow, Int.reducePow, Int.reduceToNat, Nat.reduceAdd]
  refine eff_alloc_z T.zr_68 ?_
  have X2 := Ext.push h2 (.cells #[.slice none 0 0] 68 (0, 0))
  have hb3 : b < h2.size := B1.lt
  have M0 : MS base h p s0 p1 b h2.size (h2.push (.cells #[.slice none 0 0] 68 (0, 0))) s1 [] (.slice none 0 0) := by
    refine ⟨W1.ext X2, B1.ext X2, by omega, by have := X0.size; omega, by omega, by simp, Own.nil, fun hf => ?_, fun k hk => by simp [Value.ownBlock] at hk⟩
    have := (R1.lt hf).2; omega
  obtain ⟨tq, htq⟩ : ∃ tq, tq = h2.size := ⟨_, rfl⟩
  have h0c : h.size ≤ (h2.push (.cells #[.slice none 0 0] 68 (0, 0))).size := by have := X0.size; have := X2.size; omega
  simp (disch := first | omega | assumption) only [C.h_Major_gos, T.tv, ↓reduceIte, Nat.reduceEqDiff, reduceCtorEq, Nat.reduceLeDiff, Nat.reducePow, Int.reducePow, Int.reduceToNat, Nat.reduceAdd]
  rw [← htq]
  rw [← htq] at M0
  generalize h2.push (.cells #[.slice none 0 0] 68 (0, 0)) = h3 at *
  refine eff_invoke mt_sp rfl rfl ?_
  have hr16 : s1.roots.length = 16 := I1.rt
  have vold : ∀ x, valid s1 x → x < s1.old.length ∧ x < 2147483648 := by
    intro x hx
    rcases hx with h | h
    · exact ⟨h.2, h.1⟩
    · have := h.2; rw [y1] at this; simp at this; have := h.1; omega
  have il := I1.len
  have E := each_any (S := p1.S) (g := 48) (cap := #[ptr b 0, ptr tq 0]) (h := h3) (Q := fun k hc => ∃ s todo tv, MS base h p s0 p1 b tq hc s todo tv ∧ KInv s1 s todo (fun _ => False) ∧ (∀ j x, j < k → s1.roots[j]? = some x → x = 0 ∨ mkd s x) ∧ h.size ≤ hc.size) T.able_48
    ⟨s1, [], .slice none 0 0, M0, KInv.start I1, fun j x hj => by omega, h0c⟩ (by
      rintro k hc hk ⟨s, todo, tv, W, K, hd, hcs⟩
      have er : s.roots = s1.roots := by rw [K.eq]
      have hx : s1.roots[k]? = some (s1.roots[k]'(by rw [hr16]; exact hk)) := by simp
      generalize s1.roots[k]'(by rw [hr16]; exact hk) = x at hx
      have hl : getL s (.root k) = some x := by show s.roots[k]? = _; rw [er]; exact hx
      have hv := vold x (I1.rv x (List.mem_of_getElem? hx))
      have hcn := K.cn
      refine (Major1_any W hl (by rw [K.ol]; exact hv.1) hv.2 (by omega) hcs).mono ?_
      rintro v h' ⟨tv', W', hcs'⟩
      obtain ⟨k1, k2, k3, _⟩ := mark_step K hv.1 (.root (List.mem_of_getElem? hx))
      refine ⟨_, _, tv', W', k1, fun j y hj hy => ?_, hcs'⟩
      by_cases e : j = k
      · subst e; rw [hx] at hy; cases hy; exact k2
      · rcases hd j y (by omega) hy with h | h
        · exact .inl h
        · exact .inr (k3 y h))
  rw [Pk1.1] at E
  refine E.mono ?_
  clear E
  rintro v h4 ⟨s, todo, tv, W, K, hd, hcs⟩
  have hd : ∀ x ∈ s1.roots, x = 0 ∨ mkd s x := fun x hx => by
    obtain ⟨j, hj⟩ := List.getElem?_of_mem hx
    exact hd j x (by have := (List.getElem?_eq_some_iff.1 hj).1; omega) hj
  clear M0 h0c bx
  simp (disch := first | omega | assumption) only [C.h_Major_gos, T.tv, ↓reduceIte, Nat.reduceEqDiff, reduceCtorEq, Nat.reduceLeDiff, Nat.reducePow, Int.reducePow, Int.reduceToNat, Nat.reduceAdd]
  refine loop_intro [1, 2, 4, 5] (fun m ρ hc => ∃ s todo tv, m = todo.length + sumF unN s.old ∧ ρ = [(1, .iface 26 (ptr p.S 0)), (2, ptr b 0), (4, ptr tq 0), (5, .func (.func 48) #[] #[ptr b 0, ptr tq 0])] ∧
    MS base h p s0 p1 b tq hc s todo tv ∧ KInv s1 s todo (fun _ => False) ∧ (∀ x ∈ s1.roots, x = 0 ∨ mkd s x) ∧ h.size ≤ hc.size) ?_ ?_
  · simp (disch := first | omega | assumption) only [C.h_Major_gos, T.tv, ↓reduceIte, Nat.reduceEqDiff, reduceCtorEq, Nat.reduceLeDiff, Nat.reducePow, Int.reducePow, Int.reduceToNat, Nat.reduceAdd]
    exact ⟨_, s, todo, tv, rfl, W, K, hd, hcs⟩
  clear W K hd hcs
  rintro m ρ hc ⟨s, todo, tv, rfl, rfl, W, K, hd, hcs⟩
  have tc := W.tcell.1
  have hcn := K.cn
  obtain ⟨ta, tcp, htv, hta⟩ : ∃ ta tcp, tv = .slice ta todo.length tcp ∧ (todo = [] ∨ ∃ g, ta = some ⟨g, 0, none⟩) := by
    rcases W.to.rd with ⟨h1, h2, _⟩ | ⟨g, c, h1, _⟩
    · exact ⟨none, 0, by rw [h1, h2], .inl (List.length_eq_zero_iff.1 h2)⟩
    · exact ⟨_, c, h1, .inr ⟨g, rfl⟩⟩
  subst htv
  by_cases c1 : todo = []
  · subst c1
    have c2 : ¬ (0 : Int) < ((0 : Nat) : Int) := by omega
    simp (disch := first | omega | assumption) only [C.h_Major_gos, T.tv, ↓reduceIte, Nat.reduceEqDiff, reduceCtorEq, Nat.reduceLeDiff, Nat.reducePow, Int.reducePow, Int.reduceToNat, Nat.reduceAdd, tc, c2]
    exact Major_t2 hbs l1 o1 Pk1 I1 S1 y1 f1 W K hd
  · have c2 : (0 : Int) < (todo.length : Int) := by have := List.length_pos_iff.2 c1; omega
    obtain ⟨g, rfl⟩ : ∃ g, ta = some ⟨g, 0, none⟩ := by
      rcases hta with h | h
      · exact absurd h c1
      · exact h
    clear hta
    obtain ⟨td, k, rfl⟩ : ∃ td k, todo = td ++ [k] := ⟨todo.dropLast, todo.getLast c1, (List.dropLast_concat_getLast c1).symm⟩
    have eln : (td ++ [k]).length = td.length + 1 := by simp
    obtain ⟨K1, c, hck, hct⟩ := K.pop
    have hkl : k < s.old.length := (List.getElem?_eq_some_iff.1 hck).1
    have hk31 : k < 2147483648 := by have := K.ol; omega
    have lk : look s k = some c := by unfold look; rw [if_pos hk31]; exact hck
    have ea : adrB p1 k = p1.O := by unfold adrB; rw [if_pos hk31]
    have eo : adrO k = k * 7 := by unfold adrO; rw [if_pos hk31]
    have A := at_any W.st.rep lk (by omega)
    rw [ea, eo] at A
    obtain ⟨c0, hc0, hcc, hcp⟩ := K.oc k c hck
    have hpr : PR s1 k := by
      rcases hcp with h | h
      · exact absurd h hct
      · exact h.2
    have hk0 : k ≠ 0 := by
      rcases hcp with h | h
      · exact absurd h hct
      · intro e; exact hct (h.1.trans e)
    have lk0 : look s1 k = some c0 := by unfold look; rw [if_pos hk31]; exact hc0
    obtain ⟨gg, l, g1, g2, g3, g4⟩ := (I1.ha k c0 hk0 (hpr.valid I1) lk0).r
    have hcrg : c.rg = some gg := by rw [hcc]; exact g1
    have hcrn : c.rn = l.length := by rw [hcc]; exact g3.symm
    have hsz := sumF_mem (f := CP.size) hc0
    have hus1 := I1.us
    have hul1 := I1.ul
    have hll1 := I1.ll
    have hsz2 : c0.rn ≤ c0.size := by unfold CP.size; omega
    have hln : l.length ≤ 16386 := by unfold wsum at hus1; omega
    have bx := W.bx.get
    have w1 : IntKind.i64.wrap (((td ++ [k]).length : Int) - 1) = ((td.length : Nat) : Int) := by rw [eln, wrap_i64 (by omega) (by omega)]; omega
    have tk : cellAt hc ⟨g, td.length, none⟩ = some (refV k) := by
      have := W.to
      exact Own_at this (q := td.length) (by simp)
    have b1 : (0 : Int) ≤ (td.length : Int) := by omega
    have b2 : (td.length : Int) < ((td ++ [k]).length : Int) := by omega
    obtain ⟨nn, hnn⟩ : ∃ nn, nn = (td ++ [k]).length := ⟨_, rfl⟩
    have hto := W.to
    rw [← hnn] at w1 b2 tc c2 W hto
    have hcap : (td.length : Int) ≤ (tcp : Int) := by
      rcases hto.2 with ⟨hv, _⟩ | ⟨g', cap, cur, fz, hv, _, _, _, h4, _⟩
      · cases hv
      · cases hv; omega
    simp (disch := first | omega | assumption) only [C.h_Major_gos, T.tv, ↓reduceIte, Nat.reduceEqDiff, reduceCtorEq, Nat.reduceLeDiff, Nat.reducePow, Int.reducePow, Int.reduceToNat, Nat.reduceAdd, tc, c2, bx, w1, b1, b2, tk, refV]
    refine eff_callF rfl (A.mono ?_)
    rintro v1 h9 ⟨rfl, rfl⟩
    have hslA : slA (some ⟨g, 0, none⟩) tcp 0 1 = some ⟨g, 0, none⟩ := by unfold slA; split <;> rfl
    simp (disch := first | omega | assumption) only [C.h_Major_gos, T.tv, ↓reduceIte, Nat.reduceEqDiff, reduceCtorEq, Nat.reduceLeDiff, Nat.reducePow, Int.reducePow, Int.reduceToNat, Nat.reduceAdd, tc, w1, b1, hcap, hslA, Nat.sub_zero]
    refine eff_store1_z T.zr_68 rfl rfl rfl rfl rfl tc W.tcell.2 ?_
    have W2 : MS base h p s0 p1 b tq (setAt h9 ⟨tq, 0, none⟩ (.slice (some ⟨g, 0, none⟩) td.length tcp)) s td (.slice (some ⟨g, 0, none⟩) td.length tcp) := by
      refine W.push (Fr.refl _ _) ?_ (fun k hk => .inl hk)
      have := Own_take hto (m := td.length) (by omega)
      simpa using this
    have hcs2 : h.size ≤ (setAt h9 ⟨tq, 0, none⟩ (.slice (some ⟨g, 0, none⟩) td.length tcp)).size := by rw [setAt_size]; exact hcs
    clear tc bx tk A
    have rlc : rl s1 c0 = l := rl_of g1 g2
    have hM : td.length + sumF unN s.old + 1 = (td ++ [k]).length + sumF unN s.old := by omega
    generalize setAt h9 ⟨tq, 0, none⟩ (.slice (some ⟨g, 0, none⟩) td.length tcp) = h5 at *
    have a3 : cellAt h5 ⟨p1.O, k * 7 + 3, none⟩ = some (sv c.rg c.rn) := by have := W2.st.rep.a3 lk; rw [ea, eo] at this; exact this
    simp (disch := first | omega | assumption) only [C.h_Major_gos, T.tv, ↓reduceIte, Nat.reduceEqDiff, reduceCtorEq, Nat.reduceLeDiff, Nat.reducePow, Int.reducePow, Int.reduceToNat, Nat.reduceAdd, a3, sv, hcrg, hcrn]
    rw [← hnn] at *
    refine loop_intro [1, 2, 4, 5, 6, 41, 42] (fun m ρ hc => ∃ i s' todo tv, m = l.length - i ∧ i ≤ l.length ∧ ρ = [(1, .iface 26 (ptr p.S 0)), (2, ptr b 0), (4, ptr tq 0), (5, .func (.func 48) #[] #[ptr b 0, ptr tq 0]), (6, ptr p1.O (k * 7)), (41, .int .i64 (l.length : Int)), (42, .int .i64 (i : Int))] ∧
      MS base h p s0 p1 b tq hc s' todo tv ∧ KInv s1 s' todo (fun j => j = k) ∧ (∀ x ∈ s1.roots, x = 0 ∨ mkd s' x) ∧ h.size ≤ hc.size ∧ (∀ (j x : Nat), j < i → l[j]? = some x → x = 0 ∨ mkd s' x) ∧ todo.length + sumF unN s'.old + 1 = nn + sumF unN s.old) ?_ ?_
    · simp (disch := first | omega | assumption) only [C.h_Major_gos, T.tv, ↓reduceIte, Nat.reduceEqDiff, reduceCtorEq, Nat.reduceLeDiff, Nat.reducePow, Int.reducePow, Int.reduceToNat, Nat.reduceAdd]
      exact ⟨_, 0, s, td, _, rfl, Nat.zero_le _, rfl, W2, K1, hd, hcs2, fun j x hj => by omega, by omega⟩
    clear W2 K1 hd hcs2 a3
    rintro m ρ hc2 ⟨i, s', todo, tv, rfl, hi, rfl, W3, K3, hd3, hcs3, hdi, hme⟩
    by_cases c3 : i < l.length
    · have c4 : (i : Int) < (l.length : Int) := by omega
      have b4 : (0 : Int) ≤ (i : Int) := by omega
      have w : IntKind.i64.wrap ((i : Int) + 1) = ((i + 1 : Nat) : Int) := by rw [wrap_i64 (by omega) (by omega)]; omega
      obtain ⟨d, hdk⟩ : ∃ d, s'.old[k]? = some d := ⟨s'.old[k]'(by rw [K3.ol, ← K.ol]; exact hkl), by simp⟩
      obtain ⟨c0', hc0', hdc, _⟩ := K3.oc k d hdk
      rw [hc0] at hc0'; cases hc0'
      have lk3 : look s' k = some d := by unfold look; rw [if_pos hk31]; exact hdk
      have a3 : cellAt hc2 ⟨p1.O, k * 7 + 3, none⟩ = some (sv d.rg d.rn) := by have := W3.st.rep.a3 lk3; rw [ea, eo] at this; exact this
      have hdg : d.rg = some gg := by rw [hdc]; exact g1
      have hdn : d.rn = l.length := by rw [hdc]; exact g3.symm
      have hx : l[i]? = some l[i] := by simp
      generalize l[i] = x at hx
      have hl : getL s' (.ref gg i) = some x := by
        show (s'.RS gg).bind _ = _
        have : s'.RS = s1.RS := by rw [K3.eq]
        rw [this, g2]; exact hx
      have hv := vold x (g4 x (List.mem_of_getElem? hx))
      have hcn3 := K3.cn
      have hprx : PR s1 x := .step hpr hk0 lk0 (by rw [rlc]; exact List.mem_of_getElem? hx)
      simp (disch := first | omega | assumption) only [C.h_Major_gos, T.tv, ↓reduceIte, Nat.reduceEqDiff, reduceCtorEq, Nat.reduceLeDiff, Nat.reducePow, Int.reducePow, Int.reduceToNat, Nat.reduceAdd, c4, b4, a3, sv, hdg, hdn]
      refine eff_callC rfl rfl T.able_48 ((Major1_any W3 hl (by rw [K3.ol]; exact hv.1) hv.2 (by omega) hcs3).mono ?_)
      rintro v h' ⟨tv', W', hcs'⟩
      obtain ⟨k1, k2, k3, k4⟩ := mark_step K3 hv.1 hprx
      simp (disch := first | omega | assumption) only [C.h_Major_gos, T.tv, ↓reduceIte, Nat.reduceEqDiff, reduceCtorEq, Nat.reduceLeDiff, Nat.reducePow, Int.reducePow, Int.reduceToNat, Nat.reduceAdd, w]
      refine ⟨_, by omega, i + 1, _, _, tv', rfl, by omega, rfl, W', k1, fun y hy => ?_, hcs', fun j y hj hy => ?_, by omega⟩
      · rcases hd3 y hy with h | h
        · exact .inl h
        · exact .inr (k3 y h)
      · by_cases e : j = i
        · subst e; rw [hx] at hy; cases hy; exact k2
        · rcases hdi j y (by omega) hy with h | h
          · exact .inl h
          · exact .inr (k3 y h)
    · have c4 : ¬ (i : Int) < (l.length : Int) := by omega
      have ei : i = l.length := by omega
      subst ei
      simp (disch := first | omega | assumption) only [C.h_Major_gos, T.tv, ↓reduceIte, Nat.reduceEqDiff, reduceCtorEq, Nat.reduceLeDiff, Nat.reducePow, Int.reducePow, Int.reduceToNat, Nat.reduceAdd, c4]
      refine ⟨_, ?_, s', todo, tv, rfl, W3, K3.popped (fun c hc x hx => ?_), hd3, hcs3⟩
      · omega
      · rw [hc0] at hc; cases hc
        rw [rlc] at hx
        obtain ⟨j, hj⟩ := List.getElem?_of_mem hx
        exact hdi j x (List.getElem?_eq_some_iff.1 hj).1 hj
end Go.Proofs.Ytidkokdkldfglaa

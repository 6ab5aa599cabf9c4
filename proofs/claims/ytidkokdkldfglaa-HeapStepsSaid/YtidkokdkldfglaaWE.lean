/- What can be reached, by the reference. No condition. -/
import Derived.Test.YtidkokdkldfglaaWC
namespace Go.Proofs.Ytidkokdkldfglaa
open Go.Vc
set_option maxRecDepth 100000
set_option linter.unusedSimpArgs false
set_option linter.unusedVariables false

def unS : List Bool → Nat
  | [] => 0
  | b :: r => (if b then 0 else 1) + unS r
theorem unS_set : ∀ {l : List Bool} {i : Nat}, l[i]? = some false → unS (l.set i true) + 1 = unS l
  | [], i, h => by simp at h
  | b :: r, 0, h => by
    simp only [List.getElem?_cons_zero, Option.some.injEq] at h
    subst h
    simp only [List.set_cons_zero, unS, if_true]
    simp
    omega
  | b :: r, i + 1, h => by
    rw [List.getElem?_cons_succ] at h
    have := unS_set h
    simp only [List.set_cons_succ, unS]
    omega
theorem unS_le (l : List Bool) : unS l ≤ l.length := by
  induction l with
  | nil => exact Nat.le_refl _
  | cons b r ih => simp only [unS, List.length_cons]; split <;> omega
structure DF (a : AS) (sl : List Bool) (todo : List Nat) : Prop where
  ln : sl.length = a.things.length
  s1 : ∀ t, sl[t]? = some true → t ≠ 0 ∧ AR a t
  s2 : ∀ t ∈ todo, AR a t
  s3 : ∀ r ∈ a.roots, r = 0 ∨ sl[r]? = some true ∨ r ∈ todo
  s4 : ∀ (t : Nat) th, sl[t]? = some true → a.things[t]? = some th → ∀ u ∈ th.1, u = 0 ∨ sl[u]? = some true ∨ u ∈ todo
theorem DF.start {a : AS} : DF a (List.replicate a.things.length false) a.roots := by
  have no : ∀ t : Nat, (List.replicate a.things.length false)[t]? ≠ some true := by
    intro t h
    rw [List.getElem?_replicate] at h
    split at h <;> cases h
  exact ⟨by simp, fun t h => absurd h (no t), fun t ht => .root ht, fun r hr => .inr (.inr hr), fun t th h => absurd h (no t)⟩
theorem DF.skip {a : AS} {sl : List Bool} {td : List Nat} {r : Nat} (D : DF a sl (td ++ [r])) (hr : r = 0 ∨ sl[r]? = some true) : DF a sl td := by
  have tr : ∀ u : Nat, u = 0 ∨ sl[u]? = some true ∨ u ∈ td ++ [r] → u = 0 ∨ sl[u]? = some true ∨ u ∈ td := by
    intro u hu
    rcases hu with h | h | h
    · exact .inl h
    · exact .inr (.inl h)
    · rcases List.mem_append.1 h with h | h
      · exact .inr (.inr h)
      · rw [List.mem_singleton] at h; subst h; exact hr.imp _root_.id .inl
  exact ⟨D.ln, D.s1, fun t ht => D.s2 t (List.mem_append_left _ ht), fun u hu => tr u (D.s3 u hu), fun t th h1 h2 u hu => tr u (D.s4 t th h1 h2 u hu)⟩
theorem DF.visit {a : AS} {sl : List Bool} {td : List Nat} {r : Nat} {th : List Nat × List Nat} (D : DF a sl (td ++ [r])) (r0 : r ≠ 0) (hr : sl[r]? = some false) (ht : a.things[r]? = some th) : DF a (sl.set r true) (td ++ th.1) := by
  have ar : AR a r := D.s2 r (by simp)
  have rl := (List.getElem?_eq_some_iff.1 hr).1
  have sg : ∀ t : Nat, (sl.set r true)[t]? = some true ↔ t = r ∨ sl[t]? = some true := by
    intro t
    rw [List.getElem?_set]
    by_cases e : r = t
    · subst e; rw [if_pos rfl, if_pos rl]; simp
    · rw [if_neg e]; simp [Ne.symm e]
  have tr : ∀ u : Nat, u = 0 ∨ sl[u]? = some true ∨ u ∈ td ++ [r] → u = 0 ∨ (sl.set r true)[u]? = some true ∨ u ∈ td ++ th.1 := by
    intro u hu
    rw [sg]
    rcases hu with h | h | h
    · exact .inl h
    · exact .inr (.inl (.inr h))
    · rcases List.mem_append.1 h with h | h
      · exact .inr (.inr (List.mem_append_left _ h))
      · rw [List.mem_singleton] at h; exact .inr (.inl (.inl h))
  refine ⟨by simpa using D.ln, fun t h => ?_, fun t h => ?_, fun u hu => tr u (D.s3 u hu), fun t th' h1 h2 u hu => ?_⟩
  · rcases (sg t).1 h with h | h
    · subst h; exact ⟨r0, ar⟩
    · exact D.s1 t h
  · rcases List.mem_append.1 h with h | h
    · exact D.s2 t (List.mem_append_left _ h)
    · exact .step ar ht h
  · rcases (sg t).1 h1 with h | h
    · subst h
      rw [ht] at h2; cases h2
      exact .inr (.inr (List.mem_append_right _ hu))
    · exact tr u (D.s4 t th' h h2 u hu)
theorem DF.done {a : AS} (I : AInv a) {sl : List Bool} (D : DF a sl []) {t : Nat} {b : Bool} (hb : sl[t]? = some b) : b = true ↔ t ≠ 0 ∧ AR a t := by
  constructor
  · rintro rfl; exact D.s1 t hb
  · rintro ⟨h0, h⟩
    have : t = 0 ∨ sl[t]? = some true := by
      clear hb h0
      induction h with
      | root h =>
        rcases D.s3 _ h with h | h | h
        · exact .inl h
        · exact .inr h
        · cases h
      | @step t th u h1 h2 h3 ih =>
        rcases ih with ih | ih
        · subst ih
          rw [I.a0] at h2; cases h2; cases h3
        · rcases D.s4 _ _ ih h2 _ h3 with h | h | h
          · exact .inl h
          · exact .inr h
          · cases h
    rcases this with h | h
    · exact absurd h h0
    · rw [hb] at h; cases h; rfl
section
variable {τ ρ : Env} {h : Heap} {K : Value → Heap → Prop} {ty : TypeId} {x y : Operand}
theorem eff_mkbool {n : Nat} (hx : evo τ ρ x = some (.int .i64 (n : Int))) (hy : evo τ ρ y = some (.int .i64 (n : Int))) (hn : n ≤ 1000000) (H : K (.slice (some ⟨h.size, 0, none⟩) n n) (h.push (.cells (List.replicate n (.bool false)).toArray 4 (0, 0)))) :
    eff Try.prog (.makeSlice 56 x y) ty τ ρ h K := by
  refine eff_make T.slT_56 hx hy (by omega) (by omega) (by omega) ?_
  intro cs z i h1 h2 h3
  obtain ⟨i', z', u1, u2, u3, _⟩ := zr_spec T.zr_4
  rw [u1] at h1; cases h1
  rw [u2] at h2; cases h2
  rw [u3, Int.toNat_natCast, Nat.mul_one, made_one] at h3
  subst h3
  rw [Int.toNat_natCast]
  exact H
end
section
variable {base : Nat} {h : Heap} {p : Pm} {m : Ms} {a : AS}
theorem rd_ints {hc : Heap} {g : Nat} {l : List Nat} {e : TypeId} {z : Nat × Nat} (hg : hc[g]? = some (.cells (l.map intV).toArray e z)) : Rd hc g 0 (l.map intV) := by
  intro j v hv
  rw [Nat.zero_add, cellAt_of hg, List.getElem?_toArray]; exact hv
theorem one_ints (l : List Nat) : ∀ u ∈ l.map intV, oneCell u = true := by
  intro u hu
  obtain ⟨x, _, rfl⟩ := List.mem_map.1 hu
  rfl
/-- What lies in memory while it goes on. -/
structure RS (h hc : Heap) (b : Nat) (sl : List Bool) (tv : Value) (todo : List Nat) : Prop where
  ex : Ext h hc
  bl : h.size ≤ b
  sb : hc[b]? = some (.cells (sl.map .bool).toArray 4 (0, 0))
  to : Own hc h.size 3 1 tv todo.length (todo.map intV)
theorem RS.mark {hc : Heap} {b : Nat} {sl : List Bool} {tv : Value} {todo : List Nat} (W : RS h hc b sl tv todo) {r : Nat} (hr : r < sl.length) : RS h (setAt hc ⟨b, r, none⟩ (.bool true)) b (sl.set r true) tv todo := by
  have F : Fr (fun k => k = b) hc (setAt hc ⟨b, r, none⟩ (.bool true)) := fr_set
  refine ⟨Fr.trans W.ex F (fun _ _ h => h.elim) (fun k hk e => by have := W.bl; omega), W.bl, ?_, W.to.fr F fun k hk e => ?_⟩
  · rw [(plain_cell W.sb (by simpa using hr)).2.2, List.map_set]
  · obtain ⟨c, z, t, _⟩ := Own.blk W.to hk
    exact blk_ne t W.sb (by decide) e
theorem RS.grow {hc hd : Heap} {b : Nat} {sl : List Bool} {tv tv' : Value} {todo todo' : List Nat} (W : RS h hc b sl tv todo) (F : Fr (fun k => tv.ownBlock = some k) hc hd) (O : Own hd h.size 3 1 tv' todo'.length (todo'.map intV)) : RS h hd b sl tv' todo' := by
  refine ⟨Fr.trans W.ex F (fun _ _ h => h.elim) (fun k hk e => by have := (W.to.lt k e).1; omega), W.bl, ?_, O⟩
  rw [F.same b (Array.getElem?_eq_some_iff.1 W.sb).1 fun hk => by
    obtain ⟨c, z, t, _⟩ := Own.blk W.to hk
    exact blk_ne t W.sb (by decide) rfl]
  exact W.sb
set_option maxHeartbeats 2000000 in
theorem mReached_any (G : GdM base h p m a) (hk : m.L.length ≤ 16385) : HCalls Try.prog 31 #[.slice (some ⟨p.Lb, 0, none⟩) m.L.length p.lc, .slice (some ⟨p.Rb, 0, none⟩) 16 16] h fun v h' =>
    Ext h h' ∧ ∃ (b : Nat) (sl : List Bool), h.size ≤ b ∧ v = .slice (some ⟨b, 0, none⟩) m.L.length m.L.length ∧ h'[b]? = some (.cells (sl.map .bool).toArray 4 (0, 0)) ∧ sl.length = m.L.length ∧ ∀ (t : Nat) c, sl[t]? = some c → (c = true ↔ t ≠ 0 ∧ AR a t) := by
  refine C.m_Reached_calls (args := [.slice (some ⟨p.Lb, 0, none⟩) m.L.length p.lc, .slice (some ⟨p.Rb, 0, none⟩) 16 16]) rfl ?_
  obtain ⟨n, hn⟩ : ∃ n, n = m.L.length := ⟨_, rfl⟩
  have hna : n = a.things.length := by rw [hn, G.i.len]
  rw [← hn] at hk ⊢
  simp (disch := first | omega | assumption) only [C.m_Reached_gos, T.tv, ↓reduceIte, Nat.reduceEqDiff, reduceCtorEq, Nat.reduceLeDiff, Nat.reducePow, Int.reducePow, Int.reduceToNat, Nat.reduceAdd]
  refine eff_mkbool rfl rfl (by omega) ?_
  have X1 := Ext.push h (.cells (List.replicate n (.bool false)).toArray 4)
  have sb1 : (h.push (.cells (List.replicate n (.bool false)).toArray 4))[h.size]? = some (.cells ((List.replicate n false).map .bool).toArray 4 (0, 0)) := by simp
  have G1 := G.r.ext X1
  have W0 : RS h (h.push (.cells (List.replicate n (.bool false)).toArray 4)) h.size (List.replicate n false) (.slice none 0 0) [] := ⟨X1, Nat.le_refl _, sb1, Own.nil⟩
  clear sb1
  generalize h.push (.cells (List.replicate n (.bool false)).toArray 4) = h1 at *
  simp (disch := first | omega | assumption) only [C.m_Reached_gos, T.tv, ↓reduceIte, Nat.reduceEqDiff, reduceCtorEq, Nat.reduceLeDiff, Nat.reducePow, Int.reducePow, Int.reduceToNat, Nat.reduceAdd]
  refine eff_append_ownF (m := 16) T.slT_59 rfl rfl W0.to (by rw [List.length_map, G.i.ro, G.i.ai.rt]) (rd_ints G1.rp) (one_ints _) (by simp) (by simp) X1.size ?_
  intro tv h2 o2 f2 _ n2
  have rt16 : m.roots.length = 16 := by rw [G.i.ro, G.i.ai.rt]
  have W1 : RS h h2 h.size (List.replicate n false) tv m.roots := W0.grow f2 (by rw [rt16]; simpa using o2)
  have D1 : DF a (List.replicate n false) m.roots := by rw [hna, G.i.ro]; exact DF.start
  clear W0 o2 f2 n2 G1 X1
  have hun := unS_le (List.replicate n false)
  rw [List.length_replicate] at hun
  simp (disch := first | omega | assumption) only [C.m_Reached_gos, T.tv, ↓reduceIte, Nat.reduceEqDiff, reduceCtorEq, Nat.reduceLeDiff, Nat.reducePow, Int.reducePow, Int.reduceToNat, Nat.reduceAdd]
  obtain ⟨g0, cap0, rfl⟩ : ∃ g c, tv = .slice (some ⟨g, 0, none⟩) 16 c := by
    have := W1.to
    rw [rt16] at this
    exact Own_pos this
  refine loop_intro [0, 4, 5, 6] (fun mm ρ hc => ∃ (sl : List Bool) (g cap nn : Nat) (todo : List Nat), mm = unS sl * 20000 + nn ∧ nn = todo.length ∧ unS sl * 20000 + nn ≤ 327700016 ∧ ρ = [(0, .slice (some ⟨p.Lb, 0, none⟩) n p.lc), (4, .slice none 0 0), (5, .slice (some ⟨h.size, 0, none⟩) n n), (6, .slice (some ⟨g, 0, none⟩) nn cap)] ∧
    RS h hc h.size sl (.slice (some ⟨g, 0, none⟩) nn cap) todo ∧ DF a sl todo) ?_ ?_
  · simp (disch := first | omega | assumption) only [C.m_Reached_gos, T.tv, ↓reduceIte, Nat.reduceEqDiff, reduceCtorEq, Nat.reduceLeDiff, Nat.reducePow, Int.reducePow, Int.reduceToNat, Nat.reduceAdd]
    exact ⟨_, _, g0, cap0, 16, m.roots, rfl, rt16.symm, by omega, rfl, W1, D1⟩
  clear W1 D1 hun
  rintro mm ρ hc ⟨sl, g, cap, nn, todo, rfl, hnn, hb, rfl, W, D⟩
  have sll : sl.length = n := by rw [D.ln, hna]
  by_cases c0 : nn = 0
  · have : todo = [] := List.eq_nil_of_length_eq_zero (by omega)
    subst this
    have c2 : ¬ (0 : Int) < (nn : Int) := by omega
    simp (disch := first | omega | assumption) only [C.m_Reached_gos, T.tv, ↓reduceIte, Nat.reduceEqDiff, reduceCtorEq, Nat.reduceLeDiff, Nat.reducePow, Int.reducePow, Int.reduceToNat, Nat.reduceAdd, c2]
    exact ⟨W.ex, h.size, sl, Nat.le_refl _, rfl, W.sb, sll, fun t c hc => D.done G.i.ai hc⟩
  obtain ⟨td, r, rfl⟩ : ∃ td r, todo = td ++ [r] := by
    have hne : todo ≠ [] := fun e => by subst e; exact c0 (by simpa using hnn)
    exact ⟨todo.dropLast, todo.getLast hne, (List.dropLast_concat_getLast hne).symm⟩
  have eln : nn = td.length + 1 := by rw [hnn]; simp
  have ar : AR a r := D.s2 r (by simp)
  have rl : r < n := by rw [hna]; exact ar.lt G.i.ai
  have c2 : (0 : Int) < (nn : Int) := by omega
  have w1 : IntKind.i64.wrap ((nn : Int) - 1) = (td.length : Int) := by rw [wrap_i64 (by omega) (by omega)]; omega
  have b1 : (0 : Int) ≤ (td.length : Int) := by omega
  have b2 : (td.length : Int) < (nn : Int) := by omega
  have hto := W.to
  rw [← hnn] at hto
  have tk : cellAt hc ⟨g, td.length, none⟩ = some (intV r) := Own_at hto (q := td.length) (by simp)
  have hcap : (td.length : Int) ≤ (cap : Int) := by
    rcases hto.2 with ⟨hv, _⟩ | ⟨g', cap, cur, fz, hv, _, _, _, h4, _⟩
    · cases hv
    · cases hv; omega
  have hslA : slA (some ⟨g, 0, none⟩) cap 0 1 = some ⟨g, 0, none⟩ := by unfold slA; split <;> rfl
  have W2 : RS h hc h.size sl (.slice (some ⟨g, 0, none⟩) td.length cap) td := by
    refine ⟨W.ex, W.bl, W.sb, ?_⟩
    have := Own_take hto (m := td.length) (by omega)
    simpa using this
  by_cases c3 : r = 0
  · have c3' : (r : Int) = 0 := by omega
    simp (disch := first | omega | assumption) only [C.m_Reached_gos, T.tv, ↓reduceIte, Nat.reduceEqDiff, reduceCtorEq, Nat.reduceLeDiff, Nat.reducePow, Int.reducePow, Int.reduceToNat, Nat.reduceAdd, c2, w1, b1, b2, tk, intV, hcap, hslA, Nat.sub_zero, c3']
    exact ⟨_, by omega, sl, g, cap, td.length, td, rfl, rfl, by omega, rfl, W2, D.skip (.inl c3)⟩
  have c3' : ¬ (r : Int) = 0 := by omega
  have d1 : (0 : Int) ≤ (r : Int) := by omega
  have d2 : (r : Int) < (n : Int) := by omega
  have hsl : sl[r]? = some (sl[r]'(by omega)) := by simp
  have sc := (plain_cell W.sb (k := r) (by simp; omega)).1
  have sz := (plain_cell W.sb (k := r) (by simp; omega)).2.1
  obtain ⟨u, su, sc⟩ := sc
  rw [List.getElem?_map, hsl] at su
  cases su
  cases hv : sl[r]'(by omega) with
  | true =>
    rw [hv] at hsl sc
    simp (disch := first | omega | assumption) only [C.m_Reached_gos, T.tv, ↓reduceIte, Nat.reduceEqDiff, reduceCtorEq, Nat.reduceLeDiff, Nat.reducePow, Int.reducePow, Int.reduceToNat, Nat.reduceAdd, c2, w1, b1, b2, tk, intV, hcap, hslA, Nat.sub_zero, c3', d1, d2, sc]
    exact ⟨_, by omega, sl, g, cap, td.length, td, rfl, rfl, by omega, rfl, W2, D.skip (.inr hsl)⟩
  | false =>
    rw [hv] at hsl sc
    obtain ⟨c, g1, g2, x1, x2, x3, x4, x5, x6, _⟩ := G.i.live c3 ar
    have hsz := (G.i.ai.sz r _ x3).1
    have D3 := D.visit c3 hsl x3
    have hun := unS_set hsl
    generalize a.things.getD r ([], []) = th at *
    have W3 := W2.mark (r := r) (by omega)
    simp (disch := first | omega | assumption) only [C.m_Reached_gos, T.tv, ↓reduceIte, Nat.reduceEqDiff, reduceCtorEq, Nat.reduceLeDiff, Nat.reducePow, Int.reducePow, Int.reduceToNat, Nat.reduceAdd, c2, w1, b1, b2, tk, intV, hcap, hslA, Nat.sub_zero, c3', d1, d2, sc]
    refine eff_store1_z T.zr_4 rfl rfl rfl rfl rfl sc sz ?_
    clear W W2 hto tk sc sz
    generalize setAt hc ⟨h.size, r, none⟩ (.bool true) = h3 at *
    have E3 := G.r.ext W3.ex
    have y : cellAt h3 ⟨p.Lb, r * 3, none⟩ = some (sv c.rg c.rn) := E3.at x1 0 _ rfl
    simp (disch := first | omega | assumption) only [C.m_Reached_gos, T.tv, ↓reduceIte, Nat.reduceEqDiff, reduceCtorEq, Nat.reduceLeDiff, Nat.reducePow, Int.reducePow, Int.reduceToNat, Nat.reduceAdd, d1, d2, y, sv, x4, x6]
    refine eff_append_ownF T.slT_59 rfl rfl W3.to (by rw [List.length_map, Nat.mul_one]) (rd_ints (E3.rs g1 _ x5).2.1) (one_ints _) (by omega) (by omega) W3.ex.size ?_
    intro tv h4 o4 f4 nl n4
    obtain ⟨g', cap', rfl⟩ : ∃ g c, tv = .slice (some ⟨g, 0, none⟩) (td.length + th.1.length) c := by
      rcases o4.rd with ⟨e, _⟩ | ⟨g, c, e, _⟩
      · have := (nl.1 e).1; cases this
      · exact ⟨g, c, e⟩
    have W4 : RS h h4 h.size (sl.set r true) (.slice (some ⟨g', 0, none⟩) (td.length + th.1.length) cap') (td ++ th.1) := W3.grow f4 (by rw [List.length_append, List.map_append]; exact o4)
    simp (disch := first | omega | assumption) only [C.m_Reached_gos, T.tv, ↓reduceIte, Nat.reduceEqDiff, reduceCtorEq, Nat.reduceLeDiff, Nat.reducePow, Int.reducePow, Int.reduceToNat, Nat.reduceAdd]
    exact ⟨_, by omega, sl.set r true, g', cap', td.length + th.1.length, td ++ th.1, rfl, by simp, by omega, rfl, W4, D3⟩
end
end Go.Proofs.Ytidkokdkldfglaa

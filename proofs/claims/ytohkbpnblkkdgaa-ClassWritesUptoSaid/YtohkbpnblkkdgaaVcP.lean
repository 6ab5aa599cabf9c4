/- 'append': what it leaves of the old slice. No condition. -/
import Derived.Test.YtohkbpnblkkdgaaVcN
import Derived.WalkKit
import Derived.Deep.AppendSrc
namespace Go.Vc
set_option linter.unusedSimpArgs false
set_option linter.unusedVariables false
section
variable {P : Program} {τ ρ : Env} {h : Heap} {K : Value → Heap → Prop} {ty : TypeId}
theorem run_append_srcG {P : Program} (w : World) (base : Nat) (t tx ty e : TypeId) (i : TypeInfo) (z : Value) (size bytes : Nat) (ht : P.underlying t = some (.slice e)) (hi : P.info? e = some i) (hz : i.zero = some z)
    (hsize : i.size = size) (hby : i.bytes = bytes) (hzs : z.cells.size = size) (v : Value) (n m : Nat) (xs news : List Value) (x : Value) (hown : Own w.heap base e size v n xs) (hs : Src P size tx x m news w)
    (h63 : n + m ≤ maxLen) (hbytes : (n + m) * bytes ≤ 140737488355328) (hbase : base ≤ w.heap.size) :
    ∃ v' w', (Builtin.append_ #[t, tx] ty #[v, x]).run P w = .ok v' w' ∧ Own w'.heap base e size v' (n + m) (xs ++ news) ∧ w.grownBy w' v.ownBlock ∧ (v' = .slice none 0 0 ↔ v = .slice none 0 0 ∧ m = 0) ∧ (∀ k, v'.ownBlock = some k → v.ownBlock = some k ∨ w.heap.size ≤ k) ∧ Own w'.heap base e size v n xs := by
  subst hsize hby
  have hlen : (xs ++ news).length = (n + m) * i.size := by rw [List.length_append, hown.1, hs.newsLen, Nat.add_mul]
  have hsmall : ((n + m : Nat) : Int) ≤ 9223372036854775807 := by simp only [maxLen] at h63; omega
  have grow : ∀ (bo : Option Addr) (cap : Nat), v = .slice bo n cap → cap < n + m → (Builtin.firstCells i.size n (.slice bo n cap)).run P w.drew = .ok xs.toArray w.drew →
      ∃ v' w', (Builtin.append_ #[t, tx] ty #[v, x]).run P w = .ok v' w' ∧ Own w'.heap base e i.size v' (n + m) (xs ++ news) ∧ w.grownBy w' v.ownBlock ∧ (v' = .slice none 0 0 ↔ v = .slice none 0 0 ∧ m = 0) ∧ (∀ k, v'.ownBlock = some k → v.ownBlock = some k ∨ w.heap.size ≤ k) ∧ Own w'.heap base e i.size v n xs := by
    intro bo cap hv hcap hold
    subst hv
    have hr := run_append_grow_src (P := P) w t tx ty e i z ht hi hz bo n cap xs hold x m news hs hcap hsmall (growslice_fits hcap hbytes)
    have hge := grownCap_ge w (n + m) cap e
    have hcm2 : grownCap w (n + m) cap e ≤ maxLen := grownCap_le_maxLen w (n + m) cap e h63
    refine ⟨_, _, hr, ⟨hlen, .inr ⟨w.heap.size, _, _, (0, 0), rfl, hbase, heap_alloc_new w.drew _, by intro j _; simp, hge, hcm2, ?_, ?_⟩⟩, ⟨rfl, rfl, rfl, by simp, fun k hk _ => by show (w.heap.push _)[k]? = _; rw [Array.getElem?_push, if_neg (by omega)]⟩, ?_, fun k hk => .inr (by simp only [Value.ownBlock, Option.some.injEq] at hk; omega), hown.push _⟩
    · rw [Array.size_append, size_zeroCells, hzs, List.size_toArray, hlen, ← Nat.add_mul]
      congr 1; omega
    · simp only [Array.toList_append, List.append_assoc]
      rw [← List.append_assoc, ← hlen]
      exact List.take_left
    · constructor
      · intro h; cases h
      · rintro ⟨h1, h2⟩; cases h1; subst h2; simp at hcap
  rcases hown.2 with ⟨rfl, rfl⟩ | ⟨g, cap, cur, fz, rfl, hbg, hg, hfz, hnc, hcm, hcs, htake⟩
  · rcases Nat.eq_zero_or_pos m with rfl | hm
    · refine ⟨.slice none 0 0, w, ?_, ⟨hlen, .inl ⟨rfl, rfl⟩⟩, ⟨rfl, rfl, rfl, Nat.le_refl _, fun _ _ _ => rfl⟩, by simp, fun k hk => .inl hk, hown⟩
      rcases hs.kind with ⟨e', hk⟩ | hk <;> simp [Builtin.append_, run_underlying ht, run_underlying hk, sizeOf, typeInfo, hi, hs.len, hs.cells]
    · have hxs : xs = [] := List.eq_nil_of_length_eq_zero (by simpa using hown.1)
      subst hxs
      exact grow none 0 rfl (by omega) (run_firstCells_none w.drew i.size 0 0 0)
  · by_cases hroom : n + m ≤ cap
    · have hnl := hs.newsLen
      have hmul : (n + m) * i.size ≤ cap * i.size := Nat.mul_le_mul_right _ hroom
      rw [Nat.add_mul] at hmul
      have hr := run_append_room_src (P := P) w t tx ty e i ht hi g 0 n cap x m news hs hroom
        (fun j hj => by simp [World.cell?, hg]; omega)
        (fun j hj => by
          have := hfz (0 + n * i.size + j) (by omega)
          simp only [World.frozen?, hg, Bool.and_eq_false_iff, decide_eq_false_iff_not]
          omega)
      rw [setCells_row g e fz news _ cur w hg (by omega)] at hr
      refine ⟨_, _, hr, ⟨hlen, .inr ⟨g, cap, _, fz, rfl, hbg, setRow_heap w g cur _ e _ hg, hfz, hroom, hcm, ?_, ?_⟩⟩, ⟨rfl, rfl, rfl, by simp, fun k _ hk => setRow_other w g k _ (fun e => hk (by simp [Value.ownBlock, e]))⟩, by simp, fun k hk => .inl hk, ⟨hown.1, .inr ⟨g, cap, _, fz, rfl, hbg, setRow_heap w g cur _ e _ hg, hfz, hnc, hcm, ?_, ?_⟩⟩⟩
      · simp only [List.size_toArray, List.length_append, List.length_take, List.length_drop, Array.length_toList]
        omega
      · have ht' : cur.toList.take (0 + n * i.size) = xs := by simpa using htake
        rw [ht', ← hlen]
        exact List.take_left
      · simp only [List.size_toArray, List.length_append, List.length_take, List.length_drop, Array.length_toList]
        omega
      · have ht' : cur.toList.take (0 + n * i.size) = xs := by simpa using htake
        rw [ht', List.append_assoc]
        have hx1 := hown.1
        rw [← hx1]
        exact List.take_left
    · exact grow _ cap rfl (by omega) (run_firstCells_some w.drew i.size n ⟨g, 0, none⟩ n cap xs hown.1 (by
        intro j u hu
        have hadd : (⟨g, 0, none⟩ : Addr).add j = ⟨g, j, none⟩ := by unfold Addr.add; split <;> simp_all
        rw [hadd]
        show cellAt w.heap ⟨g, j, none⟩ = _
        rw [cellAt_of hg]
        rw [← htake, List.getElem?_take] at hu
        split at hu
        · simpa using hu
        · cases hu))

theorem eff_append_srcG {t tx e : TypeId} {size bytes : Nat} (hT : slT P t e size bytes = true) {x y : Operand} {base : Nat} {v u : Value} {n m : Nat} {xs news : List Value}
    (hx : evo τ ρ x = some v) (hy : evo τ ρ y = some u) (hown : Own h base e size v n xs) (hsrc : ∀ w : World, w.heap = h → Src P size tx u m news w)
    (h63 : n + m ≤ 9223372036854775807) (hbytes : (n + m) * bytes ≤ 140737488355328) (hbase : base ≤ h.size)
    (H : ∀ v' h', Own h' base e size v' (n + m) (xs ++ news) → Fr (fun k => v.ownBlock = some k) h h' → (v' = .slice none 0 0 ↔ v = .slice none 0 0 ∧ m = 0) → (∀ k, v'.ownBlock = some k → v.ownBlock = some k ∨ h.size ≤ k) → Own h' base e size v n xs → K v' h') :
    eff P (.call { callee := .builtin .append, args := #[x, y], argTypes := #[t, tx] }) ty τ ρ h K := by
  obtain ⟨i, z, t1, t2, t3, t4, t5, t6, t7⟩ := slT_spec hT
  refine eff_2 (x := x) (y := y) (by rfl) hx hy fun f hf1 hf2 => ?_
  intro w hw
  have hs := hsrc w hw
  subst hw
  obtain ⟨v', w', r1, r2, r3, r4, r5, r6⟩ := run_append_srcG (P := P) w base t tx ty e i z size bytes t1 t2 t3 t4 t5 t6 v n m xs news u hown hs (by simpa [maxLen] using h63) hbytes hbase
  refine ⟨.value v', w', ?_, ⟨r3.os, r3.tape, r3.output⟩, H v' w'.heap r2 (grown_fr r3) r4 r5 r6⟩
  simp only [execOp, Sop.oper, resolve, invoke, builtin, Sem.run_bind, Sem.run_pure, Result.andThen, List.map_toArray, List.map_cons, List.map_nil, hf1, hf2, r1]

theorem eff_append_ownG {t e : TypeId} {size bytes : Nat} (hT : slT P t e size bytes = true) {x y : Operand} {base : Nat} {v : Value} {n m c : Nat} {xs news : List Value} {b o : Nat}
    (hx : evo τ ρ x = some v) (hy : evo τ ρ y = some (.slice (some ⟨b, o, none⟩) m c)) (hown : Own h base e size v n xs) (hl : news.length = m * size) (hnews : Rd h b o news) (h1 : ∀ u ∈ news, oneCell u = true)
    (h63 : n + m ≤ 9223372036854775807) (hbytes : (n + m) * bytes ≤ 140737488355328) (hbase : base ≤ h.size)
    (H : ∀ v' h', Own h' base e size v' (n + m) (xs ++ news) → Fr (fun k => v.ownBlock = some k) h h' → (v' = .slice none 0 0 ↔ v = .slice none 0 0 ∧ m = 0) → (∀ k, v'.ownBlock = some k → v.ownBlock = some k ∨ h.size ≤ k) → Own h' base e size v n xs → K v' h') :
    eff P (.call { callee := .builtin .append, args := #[x, y], argTypes := #[t, t] }) ty τ ρ h K := by
  obtain ⟨i, z, t1, t2, t3, t4, t5, t6, t7⟩ := slT_spec hT
  refine eff_append_srcG hT hx hy hown (fun w hw => ?_) h63 hbytes hbase H
  subst hw
  refine Src.ofSlice w t1 ⟨b, o, none⟩ m c news hl (fun j u hu => ?_) fun u hu => by have := h1 u hu; cases u <;> first | rfl | (simp [oneCell] at this)
  have ha : (⟨b, o, none⟩ : Addr).add j = ⟨b, o + j, none⟩ := by unfold Addr.add; split <;> simp_all
  rw [ha]; exact hnews j u hu

end
end Go.Vc

/- More rules: slices and pointers against nil; the front of one's own slice. No condition. -/
import Derived.Test.YtohkbpnblkkdgaaVcP
namespace Go.Vc
set_option linter.unusedSimpArgs false
set_option linter.unusedVariables false
section
variable {P : Program} {h : Heap} {t : TypeId} {x y : Operand}
theorem eqGuard_slice {op : BinOp} {a b : Option Addr} {n c n' c' : Nat} : eqGuard op t x y (.slice a n c) (.slice b n' c') = pure () := by
  unfold eqGuard; cases op <;> rfl
theorem eqGuard_ptr {op : BinOp} {a b : Option Addr} : eqGuard op t x y (.pointer a) (.pointer b) = pure () := by
  unfold eqGuard; cases op <;> rfl
theorem bin_snil_eql {e : TypeId} {a : Option Addr} {n c : Nat} (hu : P.underlying t = some (.slice e)) : binE P .eql t x y (.slice a n c) (.slice none 0 0) h = some (.bool a.isNone) := by
  unfold binE; rw [eqGuard_slice, rd_bind', rd_pure, Option.bind_some]
  show rd P (Op.equalIn (9999 + 1) t (.slice a n c) (.slice none 0 0) >>= fun b => pure (Value.bool b)) h = _
  rw [rd_bind', Op.equalIn, rd_bind', rd_underlying hu]
  cases a <;> rfl
theorem bin_snil_neq {e : TypeId} {a : Option Addr} {n c : Nat} (hu : P.underlying t = some (.slice e)) : binE P .neq t x y (.slice a n c) (.slice none 0 0) h = some (.bool a.isSome) := by
  unfold binE; rw [eqGuard_slice, rd_bind', rd_pure, Option.bind_some]
  show rd P (Op.equalIn (9999 + 1) t (.slice a n c) (.slice none 0 0) >>= fun b => pure (Value.bool (!b))) h = _
  rw [rd_bind', Op.equalIn, rd_bind', rd_underlying hu]
  cases a <;> rfl
theorem bin_pnil_eql {e : TypeId} {a : Option Addr} (hu : P.underlying t = some (.pointer e)) : binE P .eql t x y (.pointer a) (.pointer none) h = some (.bool a.isNone) := by
  unfold binE; rw [eqGuard_ptr, rd_bind', rd_pure, Option.bind_some]
  show rd P (Op.equalIn (9999 + 1) t (.pointer a) (.pointer none) >>= fun b => pure (Value.bool b)) h = _
  rw [rd_bind', Op.equalIn, rd_bind', rd_underlying hu]
  cases a <;> rfl
theorem bin_pnil_neq {e : TypeId} {a : Option Addr} (hu : P.underlying t = some (.pointer e)) : binE P .neq t x y (.pointer a) (.pointer none) h = some (.bool a.isSome) := by
  unfold binE; rw [eqGuard_ptr, rd_bind', rd_pure, Option.bind_some]
  show rd P (Op.equalIn (9999 + 1) t (.pointer a) (.pointer none) >>= fun b => pure (Value.bool (!b))) h = _
  rw [rd_bind', Op.equalIn, rd_bind', rd_underlying hu]
  cases a <;> rfl
end
section
variable {P : Program} {h : Heap}
def maxE (P : Program) (ts : Array TypeId) (ty : TypeId) (a b : Value) (h : Heap) : Option Value := rd P (Builtin.max_ ts ty #[a, b]) h
theorem rdo_max {t t' : TypeId} {x y : Operand} {ty : TypeId} {τ ρ : Env} {h : Heap} : rdo P (.call { callee := .builtin .max, args := #[x, y], argTypes := #[t, t'] }) ty τ ρ h = (evo τ ρ x).bind fun a => (evo τ ρ y).bind fun b => maxE P #[t, t'] ty a b h := by
  rw [rdo_2 (x := x) (y := y) (by rfl) (fun a b => maxE P #[t, t'] ty a b h) fun e => ?_]
  simp only [execOp, Sop.oper, resolve, invoke, builtin, rd_bind', rd_pure, Option.bind_some, List.map_toArray, List.map_cons, List.map_nil]
  show valOf ((rd P (Builtin.max_ #[t, t'] ty #[e x, e y]) h).bind fun v => rd P (pure (Next.value v)) h) = _
  unfold maxE
  cases rd P (Builtin.max_ #[t, t'] ty #[e x, e y]) h <;> rfl
theorem max_int {ts : Array TypeId} {ty : TypeId} {k : IntKind} {a b : Int} : maxE P ts ty (.int k a) (.int k b) h = some (.int k (if a < b then b else a)) := by
  unfold maxE Builtin.max_
  simp [List.foldlM, rd_bind', rd_pure, Builtin.max2]
end
theorem Own.take {h : Heap} {base : Nat} {e : TypeId} {size : Nat} {a : Option Addr} {n c k : Nat} {xs : List Value} (H : Own h base e size (.slice a n c) n xs) (hk : k ≤ n) :
    Own h base e size (.slice (slA a c 0 size) (k - 0) (c - 0)) k (xs.take (k * size)) := by
  obtain ⟨hl, h0⟩ := H
  have hm : k * size ≤ n * size := Nat.mul_le_mul_right _ hk
  refine ⟨by rw [List.length_take, hl]; omega, ?_⟩
  rcases h0 with ⟨h1, rfl⟩ | ⟨g, cap, cur, fz, h1, hb, hg, hfz, hnc, hcm, hcs, htk⟩
  · cases h1
    have : k = 0 := by omega
    subst this
    exact .inl ⟨rfl, rfl⟩
  · cases h1
    refine .inr ⟨g, c, cur, fz, ?_, hb, hg, hfz, by omega, hcm, hcs, ?_⟩
    · unfold slA
      split
      · rfl
      · simp [Addr.add]
    · rw [← htk, List.take_take]
      congr 1; omega
theorem eff_storeN_z {P : Program} {τ ρ : Env} {h : Heap} {K : Value → Heap → Prop} {ty t : TypeId} {cz : Array Value} (hz : zrT P t cz) {x y : Operand} {b : Nat} {v : Value} {cur : Array Value} {e : TypeId}
    (hx : evo τ ρ x = some (.pointer (some ⟨b, 0, none⟩))) (hy : evo τ ρ y = some v) (hsz : v.cells.size = cz.size) (hone : ∀ u ∈ v.cells.toList, oneCell u = true) (hb : h[b]? = some (.cells cur e (0, 0))) (hcur : cur.size = cz.size)
    (H : ∀ h', Fr (fun k => k = b) h h' → h'[b]? = some (.cells v.cells e (0, 0)) → K undef h') : eff P (.store t x y) ty τ ρ h K := by
  obtain ⟨i, z, h1, h2, rfl, h3⟩ := zr_spec hz
  refine eff_storeN h1 hx hy (by omega) hone hb (by omega) (by intro j _ _; simp) fun h' hf hs hb' => H h' hf ?_
  rw [hb']
  have : cur.toList.drop (0 + i.size) = [] := by rw [List.drop_eq_nil_iff]; simp; omega
  rw [this]; simp
theorem eff_storeN_zz {P : Program} {τ ρ : Env} {h : Heap} {K : Value → Heap → Prop} {ty t : TypeId} {cz : Array Value} (hz : zrT P t cz) {x y : Operand} {b o : Nat} {v : Value} {cur : Array Value} {e : TypeId} {fz : Nat × Nat}
    (hx : evo τ ρ x = some (.pointer (some ⟨b, o, none⟩))) (hy : evo τ ρ y = some v) (hsz : v.cells.size = cz.size) (hone : ∀ u ∈ v.cells.toList, oneCell u = true) (hb : h[b]? = some (.cells cur e fz)) (hlen : o + cz.size ≤ cur.size)
    (hfz : ∀ j, o ≤ j → j < o + cz.size → ¬ (fz.1 ≤ j ∧ j < fz.2))
    (H : ∀ h', Fr (fun k => k = b) h h' → h'[b]? = some (.cells (cur.toList.take o ++ v.cells.toList ++ cur.toList.drop (o + cz.size)).toArray e fz) → K undef h') : eff P (.store t x y) ty τ ρ h K := by
  obtain ⟨i, z, h1, h2, rfl, h3⟩ := zr_spec hz
  rw [← h3] at hlen hfz
  refine eff_storeN h1 hx hy (by omega) hone hb hlen hfz fun h' hf hs hb' => H h' hf ?_
  rw [hb', h3]
/-- A row of one's own slice, to be written. -/
theorem Own.row {h : Heap} {base : Nat} {e : TypeId} {size : Nat} {v : Value} {n : Nat} {ys : List Value} (H : Own h base e size v n ys) {i : Nat} (hi : i < n) :
    ∃ g c cur fz, v = .slice (some ⟨g, 0, none⟩) n c ∧ h[g]? = some (.cells cur e fz) ∧ i * size + size ≤ cur.size ∧ (∀ j, i * size ≤ j → j < i * size + size → ¬ (fz.1 ≤ j ∧ j < fz.2)) ∧
      ∀ h' row, row.length = size → h'[g]? = some (.cells (cur.toList.take (i * size) ++ row ++ cur.toList.drop (i * size + size)).toArray e fz) → Own h' base e size v n (ys.take (i * size) ++ row ++ ys.drop (i * size + size)) := by
  obtain ⟨hl, h0⟩ := H
  rcases h0 with ⟨_, rfl⟩ | ⟨g, cap, cur, fz, rfl, hb, hg, hfz, hnc, hcm, hcs, htk⟩
  · omega
  · have h1 : i * size + size ≤ n * size := by
      have := Nat.mul_le_mul_right size (show i + 1 ≤ n by omega)
      rw [Nat.add_mul, Nat.one_mul] at this; exact this
    have h2 : n * size ≤ cap * size := Nat.mul_le_mul_right _ hnc
    refine ⟨g, cap, cur, fz, rfl, hg, by omega, fun j _ hj => hfz j (by omega), fun h' row hr hg' => ?_⟩
    refine ⟨?_, .inr ⟨g, cap, _, fz, rfl, hb, hg', hfz, hnc, hcm, ?_, ?_⟩⟩
    · simp only [List.length_append, List.length_take, List.length_drop, hl, hr]; omega
    · simp only [List.size_toArray, List.length_append, List.length_take, List.length_drop, Array.length_toList, hcs, hr]; omega
    · subst htk
      simp only []
      rw [List.take_take, Nat.min_eq_left (by omega : i * size ≤ n * size), List.take_append, List.take_append]
      have e1 : (cur.toList.take (i * size)).length = i * size := by rw [List.length_take, Array.length_toList]; omega
      have e3 : (cur.toList.take (i * size) ++ row).length = i * size + size := by rw [List.length_append, e1, hr]
      rw [e1, e3, List.take_of_length_le (l := cur.toList.take (i * size)) (by omega), List.take_of_length_le (l := row) (by omega), List.drop_take]
end Go.Vc

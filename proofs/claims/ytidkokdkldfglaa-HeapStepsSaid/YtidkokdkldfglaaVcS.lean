/- Structs compared with themselves; slices of structs as arguments, opened row by row. No condition. The rewriting rules in one bundle. No condition. More rules: slices and pointers against nil; the front of one's own slice. No condition. 'copy' of a text into one's own bytes. No condition. -/
import Derived.Test.YtidkokdkldfglaaVcJ
import Derived.Deep.Slices
import Derived.ChangeSame
import Derived.Laws.Tables
import Derived.Laws.Sem
import Derived.WalkKit
import Derived.Deep.AppendSrc
namespace Go.Vc
set_option linter.unusedSimpArgs false
set_option linter.unusedVariables false
section
variable {P : Program} {h : Heap}

def fitV (P : Program) (t : TypeId) (v : Value) : Bool := match P.underlying t, v with
  | some .bool, .bool _ => true
  | some (.int _), .int _ _ => true
  | some .string, .string _ => true
  | _, _ => false
theorem rd_eq_refl {t : TypeId} {v : Value} {d : Nat} (hf : fitV P t v = true) : rd P (Op.equalIn (d + 1) t v v) h = some true := by
  unfold fitV at hf
  split at hf
  · next hu => rw [Op.equalIn, rd_bind', rd_underlying hu]; simp [rd_pure]
  · next hu => rw [Op.equalIn, rd_bind', rd_underlying hu]; simp [rd_pure]
  · next s hu =>
    rw [Op.equalIn, rd_bind', rd_underlying hu]
    have : (s == s) = true := by
      first | exact beq_self_eq_true s | exact decide_eq_true rfl | (cases s; first | exact beq_self_eq_true (α := Array UInt8) _ | (simp [BEq.beq, ByteArray.beq]; done) | (unfold BEq.beq; simp [ByteArray.beq]; done))
    simp [rd_pure, this]
  · cases hf
theorem rd_part {t : TypeId} {v : Value} {cs : Array Value} {off : Nat} (hf : fitV P t v = true) (hc : cs[off]? = some v) : rd P (part t cs off) h = some v := by
  unfold fitV at hf
  split at hf
  · next hu => unfold part; rw [rd_bind', rd_isAgg hu]; simp [hc, rd_pure]
  · next hu => unfold part; rw [rd_bind', rd_isAgg hu]; simp [hc, rd_pure]
  · next hu => unfold part; rw [rd_bind', rd_isAgg hu]; simp [hc, rd_pure]
  · cases hf
def eqaC (P : Program) (t : TypeId) (cs : List Value) : Bool := match P.underlying t with
  | some (.struct fs) => !(P.stoodInHeld t) && !(P.eqGuardType P.depth t) && fs.toList.all fun f => match cs[f.offset]? with | some v => fitV P f.type v | none => false
  | _ => false
theorem rd_eq_agg {t : TypeId} {cs : List Value} {d : Nat} (hf : eqaC P t cs = true) : rd P (Op.equalIn (d + 2) t (.agg cs.toArray) (.agg cs.toArray)) h = some true := by
  unfold eqaC at hf
  split at hf
  · next fs hu =>
    simp only [Bool.and_eq_true, Bool.not_eq_true', List.all_eq_true] at hf
    obtain ⟨⟨h1, h2⟩, h3⟩ := hf
    rw [Op.equalIn, rd_bind', rd_underlying hu, Option.bind_some]
    dsimp only
    rw [rd_bind', show rd P (program) h = some P from rfl, Option.bind_some, h1]
    simp only [Bool.false_eq_true, if_false]
    rw [← Array.forIn_toList]
    have key : ∀ (l : List Field) (s : Option Bool × Unit), (∀ f ∈ l, f ∈ fs.toList) → s = (none, ()) →
        ∀ (g : Field → Option Bool × Unit → Sem (ForInStep (Option Bool × Unit))), (∀ f ∈ fs.toList, rd P (g f (none, ())) h = some (.yield (none, ()))) →
        rd P (forIn l s g) h = some (none, ()) := by
      intro l
      induction l with
      | nil => intro s _ hs g _; subst hs; simp [rd_pure]
      | cons f l ih =>
        intro s hl hs g hg
        subst hs
        rw [List.forIn_cons, rd_bind', hg f (hl f (by simp)), Option.bind_some]
        exact ih _ (fun f hf => hl f (by simp [hf])) rfl g hg
    rw [rd_bind', key fs.toList _ (fun _ h => h) rfl _ ?_]
    · simp [rd_pure]
    · intro f hfm
      have h4 := h3 f hfm
      split at h4
      · next v hv =>
        have hv' : cs.toArray[f.offset]? = some v := by simpa using hv
        by_cases hn : f.name = "_"
        · simp [hn, rd_pure]
        · simp only [ne_eq, hn, not_false_eq_true, if_true]
          simp only [rd_bind', rd_part h4 hv', Option.bind_some, rd_eq_refl h4]
          simp [rd_pure]
      · cases h4
  · cases hf
theorem eqGuard_agg {t : TypeId} {cs cs' : List Value} {op : BinOp} {x y : Operand} (hf : eqaC P t cs = true) : rd P (eqGuard op t x y (.agg cs.toArray) (.agg cs'.toArray)) h = some () := by
  unfold eqaC at hf
  split at hf
  · next fs hu =>
    simp only [Bool.and_eq_true, Bool.not_eq_true', List.all_eq_true] at hf
    obtain ⟨⟨h1, h2⟩, h3⟩ := hf
    unfold eqGuard
    cases op <;> first | rfl | (simp only [Bool.not_true, Bool.false_eq_true, if_false]; rw [rd_bind', show rd P (program) h = some P from rfl, Option.bind_some, rd_bind', show rd P (program) h = some P from rfl, Option.bind_some, h2]; simp [rd_pure])
  · cases hf
theorem bin_agg_neq {t : TypeId} {cs : List Value} {x y : Operand} (hf : eqaC P t cs = true) : binE P .neq t x y (.agg cs.toArray) (.agg cs.toArray) h = some (.bool false) := by
  unfold binE
  rw [rd_bind', eqGuard_agg hf, Option.bind_some]
  show rd P (Op.equalIn (9998 + 2) t (.agg cs.toArray) (.agg cs.toArray) >>= fun b => pure (Value.bool !b)) h = _
  rw [rd_bind', rd_eq_agg hf, Option.bind_some]; rfl
theorem bin_agg_eql {t : TypeId} {cs : List Value} {x y : Operand} (hf : eqaC P t cs = true) : binE P .eql t x y (.agg cs.toArray) (.agg cs.toArray) h = some (.bool true) := by
  unfold binE
  rw [rd_bind', eqGuard_agg hf, Option.bind_some]
  show rd P (Op.equalIn (9998 + 2) t (.agg cs.toArray) (.agg cs.toArray) >>= fun b => pure (Value.bool b)) h = _
  rw [rd_bind', rd_eq_agg hf, Option.bind_some]; rfl
end

/-- A slice value whose length is within its capacity. -/
def capOk : Value → Prop
  | .slice _ n c => n ≤ c
  | _ => True
theorem Own.capOk {h : Heap} {base : Nat} {e : TypeId} {size : Nat} {v : Value} {n : Nat} {xs : List Value} (H : Own h base e size v n xs) : Go.Vc.capOk v := by
  rcases H.2 with ⟨rfl, rfl⟩ | ⟨g, cap, cur, fz, rfl, _, _, _, hn, _⟩
  · exact Nat.le_refl 0
  · exact hn

section
variable {P : Program} {h : Heap}
/-! ### A slice of a slice -/
def slA (a : Option Addr) (c lo size : Nat) : Option Addr := if c = lo then a else a.map (·.add (lo * size))
theorem sl_sl_lh {t e : TypeId} {a : Option Addr} {n c size bytes : Nat} {k k' : IntKind} {lo hi : Int} (hT : slT P t e size bytes = true) (h0 : 0 ≤ lo) (h1 : lo ≤ hi) (h2 : hi ≤ c) :
    slE P t (.slice a n c) (some (.int k lo)) (some (.int k' hi)) none h = some (.slice (slA a c lo.toNat size) (hi.toNat - lo.toNat) (c - lo.toNat)) := by
  obtain ⟨i, z, t1, t2, t3, t4, t5, t6, t7⟩ := slT_spec hT
  unfold slE Instr.sliceAt
  rw [rd_bind', rd_underlying t1, Option.bind_some]
  simp only [Instr.slice, rd_bind', rd_underlying t1, Option.bind_some, Instr.sliceBounds, rd_pure]
  rw [rd_bound (by omega) (by omega)]
  simp only [Option.bind_some]
  rw [rd_bound h0 (by omega)]
  simp only [Option.bind_some, rd_sizeOf t2, rd_pure, slA, t4]
theorem sl_sl_l {t e : TypeId} {a : Option Addr} {n c size bytes : Nat} {k : IntKind} {lo : Int} (hT : slT P t e size bytes = true) (h0 : 0 ≤ lo) (h1 : lo ≤ n) :
    slE P t (.slice a n c) (some (.int k lo)) none none h = some (.slice (slA a c lo.toNat size) (n - lo.toNat) (c - lo.toNat)) := by
  obtain ⟨i, z, t1, t2, t3, t4, t5, t6, t7⟩ := slT_spec hT
  unfold slE Instr.sliceAt
  rw [rd_bind', rd_underlying t1, Option.bind_some]
  simp only [Instr.slice, rd_bind', rd_underlying t1, Option.bind_some, Instr.sliceBounds, rd_pure]
  rw [rd_bound h0 h1]
  simp only [Option.bind_some, rd_sizeOf t2, rd_pure, slA, t4]
theorem sl_sl_h {t e : TypeId} {a : Option Addr} {n c size bytes : Nat} {k' : IntKind} {hi : Int} (hT : slT P t e size bytes = true) (h1 : 0 ≤ hi) (h2 : hi ≤ c) :
    slE P t (.slice a n c) none (some (.int k' hi)) none h = some (.slice (slA a c 0 size) (hi.toNat - 0) (c - 0)) := by
  obtain ⟨i, z, t1, t2, t3, t4, t5, t6, t7⟩ := slT_spec hT
  unfold slE Instr.sliceAt
  rw [rd_bind', rd_underlying t1, Option.bind_some]
  simp only [Instr.slice, rd_bind', rd_underlying t1, Option.bind_some, Instr.sliceBounds, rd_pure]
  rw [rd_bound h1 h2]
  simp only [Option.bind_some, rd_sizeOf t2, rd_pure, slA, t4]
theorem SlN.sub {a : Option Addr} {n c size lo hi : Nat} {xs : List Value} (H : SlN h size (.slice a n c) n xs) (h1 : lo ≤ hi) (h2 : hi ≤ n) (hc : n ≤ c) :
    SlN h size (.slice (slA a c lo size) (hi - lo) (c - lo)) (hi - lo) ((xs.take (hi * size)).drop (lo * size)) := by
  obtain ⟨hl, a', c', he, h3⟩ := H
  cases he
  have hm : hi * size ≤ n * size := Nat.mul_le_mul_right _ h2
  refine ⟨by rw [List.length_drop, List.length_take, hl, Nat.min_eq_left hm, Nat.sub_mul], _, _, rfl, ?_⟩
  rcases Nat.eq_or_lt_of_le h1 with rfl | hlt
  · exact .inl (by omega)
  · rcases h3 with rfl | ⟨b, o, rfl, hr⟩
    · omega
    · right
      refine ⟨b, o + lo * size, ?_, ?_⟩
      · unfold slA
        rw [if_neg (by omega)]
        simp only [Option.map_some, Option.some.injEq]
        unfold Addr.add; split
        · next h' => rw [h', Nat.add_zero]
        · rfl
      · intro j v hv
        rw [List.getElem?_drop, List.getElem?_take] at hv
        split at hv
        · have := hr _ v hv
          rwa [← Nat.add_assoc] at this
        · cases hv
end

section
variable {P : Program} {h : Heap}
/-! ### Structs of scalars compared -/
def eqCell : Value → Value → Bool
  | .int k a, .int k' b => decide (k = k') && (a == b)
  | .bool a, .bool b => a == b
  | .string a, .string b => a == b
  | _, _ => false
theorem rd_eq_cell {t : TypeId} {v u : Value} {d : Nat} (hf : fitV P t v = true) (hg : fitV P t u = true) (hk : ∀ k a k' b, v = .int k a → u = .int k' b → k = k') :
    rd P (Op.equalIn (d + 1) t v u) h = some (eqCell v u) := by
  unfold fitV at hf hg
  split at hf
  · next hu =>
    rw [hu] at hg
    split at hg <;> simp_all only [reduceCtorEq, Option.some.injEq]
    rw [Op.equalIn, rd_bind', rd_underlying hu]; simp [rd_pure, eqCell]
  · next k0 k a hu =>
    rw [hu] at hg
    split at hg <;> simp_all only [reduceCtorEq, Option.some.injEq]
    next k1 k' b he =>
    have : k = k' := hk _ _ _ _ rfl rfl
    subst this
    rw [Op.equalIn, rd_bind', rd_underlying hu]; simp [rd_pure, eqCell]
  · next hu =>
    rw [hu] at hg
    split at hg <;> simp_all only [reduceCtorEq, Option.some.injEq]
    rw [Op.equalIn, rd_bind', rd_underlying hu]; simp [rd_pure, eqCell]
  · cases hf
/-- Two rows of cells of a struct whose fields are scalars: each pair fits, and is of one kind. -/
def eqbC (P : Program) (t : TypeId) (cs ds : List Value) : Bool := match P.underlying t with
  | some (.struct fs) => fs.toList.all fun f => match cs[f.offset]?, ds[f.offset]? with
    | some v, some u => fitV P f.type v && fitV P f.type u && (match v, u with | .int k _, .int k' _ => decide (k = k') | _, _ => true)
    | _, _ => false
  | _ => false
def eqRow (P : Program) (t : TypeId) (cs ds : List Value) : Bool := match P.underlying t with
  | some (.struct fs) => fs.toList.all fun f => (f.name == "_") || (match cs[f.offset]?, ds[f.offset]? with | some v, some u => eqCell v u | _, _ => false)
  | _ => false
theorem rd_eq_row {t : TypeId} {cs ds : List Value} {d : Nat} (hf : eqaC P t cs = true) (hb : eqbC P t cs ds = true) : rd P (Op.equalIn (d + 2) t (.agg cs.toArray) (.agg ds.toArray)) h = some (eqRow P t cs ds) := by
  unfold eqaC at hf
  split at hf
  · next fs hu =>
    simp only [Bool.and_eq_true, Bool.not_eq_true', List.all_eq_true] at hf
    obtain ⟨⟨h1, h2⟩, h3⟩ := hf
    unfold eqbC at hb
    rw [hu] at hb
    simp only [List.all_eq_true] at hb
    rw [Op.equalIn, rd_bind', rd_underlying hu, Option.bind_some]
    dsimp only
    rw [rd_bind', show rd P (program) h = some P from rfl, Option.bind_some, h1]
    simp only [Bool.false_eq_true, if_false]
    rw [← Array.forIn_toList]
    have key : ∀ (l : List Field) (s : Option Bool × Unit), (∀ f ∈ l, f ∈ fs.toList) → s = (none, ()) →
        ∀ (g : Field → Option Bool × Unit → Sem (ForInStep (Option Bool × Unit))) (q : Field → Bool), (∀ f ∈ fs.toList, rd P (g f (none, ())) h = some (if q f then .yield (none, ()) else .done (some false, ()))) →
        rd P (forIn l s g) h = some (if l.all q then (none, ()) else (some false, ())) := by
      intro l
      induction l with
      | nil => intro s _ hs g q _; subst hs; simp [rd_pure]
      | cons f l ih =>
        intro s hl hs g q hg
        subst hs
        rw [List.forIn_cons, rd_bind', hg f (hl f (by simp)), Option.bind_some]
        by_cases hq : q f = true
        · rw [if_pos hq]
          simp only
          rw [ih _ (fun f hf => hl f (by simp [hf])) rfl g q hg]
          simp [hq]
        · rw [if_neg hq]
          simp [hq, rd_pure]
    rw [rd_bind', key fs.toList _ (fun _ h => h) rfl _ (fun f => (f.name == "_") || (match cs[f.offset]?, ds[f.offset]? with | some v, some u => eqCell v u | _, _ => false)) ?_]
    · unfold eqRow
      rw [hu]
      simp only [Option.bind_some]
      cases hall : fs.toList.all (fun f => (f.name == "_") || (match cs[f.offset]?, ds[f.offset]? with | some v, some u => eqCell v u | _, _ => false)) with
      | true => simp [rd_pure]
      | false => simp [rd_pure]
    · intro f hfm
      have h4 := hb f hfm
      split at h4
      · next v u hv hu' =>
        simp only [Bool.and_eq_true] at h4
        obtain ⟨⟨g1, g2⟩, g3⟩ := h4
        have hv' : cs.toArray[f.offset]? = some v := by simpa using hv
        have hu'' : ds.toArray[f.offset]? = some u := by simpa using hu'
        have hk : ∀ k a k' b, v = .int k a → u = .int k' b → k = k' := by
          intro k a k' b e1 e2
          subst e1 e2
          simpa using g3
        by_cases hn : f.name = "_"
        · simp [hn, rd_pure]
        · simp only [ne_eq, hn, not_false_eq_true, if_true]
          simp only [rd_bind', rd_part g1 hv', rd_part g2 hu'', Option.bind_some, rd_eq_cell g1 g2 hk]
          by_cases hq : eqCell v u = true
          · simp [rd_pure, hn, hv, hu', hq]
          · simp [rd_pure, hn, hv, hu', hq]
      · cases h4
  · cases hf
theorem bin_row_neq {t : TypeId} {cs ds : List Value} {x y : Operand} (hf : eqaC P t cs = true) (hb : eqbC P t cs ds = true) : binE P .neq t x y (.agg cs.toArray) (.agg ds.toArray) h = some (.bool !(eqRow P t cs ds)) := by
  unfold binE
  rw [rd_bind', eqGuard_agg hf, Option.bind_some]
  show rd P (Op.equalIn (9998 + 2) t (.agg cs.toArray) (.agg ds.toArray) >>= fun b => pure (Value.bool !b)) h = _
  rw [rd_bind', rd_eq_row hf hb, Option.bind_some]; rfl
theorem bin_row_eql {t : TypeId} {cs ds : List Value} {x y : Operand} (hf : eqaC P t cs = true) (hb : eqbC P t cs ds = true) : binE P .eql t x y (.agg cs.toArray) (.agg ds.toArray) h = some (.bool (eqRow P t cs ds)) := by
  unfold binE
  rw [rd_bind', eqGuard_agg hf, Option.bind_some]
  show rd P (Op.equalIn (9998 + 2) t (.agg cs.toArray) (.agg ds.toArray) >>= fun b => pure (Value.bool b)) h = _
  rw [rd_bind', rd_eq_row hf hb, Option.bind_some]; rfl
end

section
open Go.ChangeShapes Go.WideShapes Go.Deep
variable {H : Type} {enc : TypeId × Value → H} {P : Program} {W : World} {base : Nat} {spare : Nat → Bool} {held : Bool}
theorem cell_plain {a : Addr} {v : Value} (hc : W.cell? a = some v) : a.spot = none ∧ cellAt W.heap a = some v := by
  obtain ⟨b, o, s⟩ := a
  cases s with
  | some s => simp only [World.cell?, Option.isSome_some, if_true] at hc; split at hc <;> cases hc
  | none => exact ⟨rfl, hc⟩
theorem add_off {b o k : Nat} : Addr.add ⟨b, o, none⟩ k = ⟨b, o + k, none⟩ := by
  unfold Addr.add; split
  · next h' => subst h'; rfl
  · rfl
/-- A SLICE OF ELEMENTS OF ANY SIZE, READ AS AN ARGUMENT: its rows of cells, each with its reading. -/
theorem rows_open {t e : TypeId} {fuel : Nat} {v : Value} {x : DataW H × List MemPlace} {size : Nat} (ht : P.underlying t = some (.slice e)) (hsz : P.cellsOf e = size) (hpos : 0 < size)
    (hr : DataW.trod enc P W base spare held fuel t [v] = some x) :
    ∃ rows : List (List Value × DataW H), (∀ r ∈ rows, r.1.length = size ∧ ∃ n q, DataW.trod enc P W base spare held n e r.1 = some (r.2, q)) ∧
      (x.1 = .nil ∧ rows = [] ∨ ∃ sp, x.1 = .slice (rows.map (·.2)) sp) ∧ SlN W.heap size v rows.length (rows.flatMap (·.1)) ∧ rows.length ≤ maxLen ∧ capOk v := by
  rcases open_slice ht hr with ⟨hv, rfl⟩ | ⟨a, len, cap, m, n, D, Pl, hv, hb, hl, hm, hmm, rfl, hx⟩
  · cases hv
    exact ⟨[], by simp, .inl ⟨rfl, rfl⟩, ⟨by simp, _, _, rfl, .inl rfl⟩, Nat.zero_le _, Nat.le_refl _⟩
  · cases hv
    have hlm : len ≤ m := by rw [hmm]; split <;> omega
    rw [hsz] at hx
    obtain ⟨R, hR⟩ := choose_lt (α := List Value) (p := fun i cs' => W.cells? base (a.add (i * size)) size = some cs' ∧ DataW.trod enc P W base spare held n e cs' = some (D i, Pl i)) (fun i hi => hx i hi)
    refine ⟨(List.range len).map fun i => (R i, D i), ?_, .inr ⟨(List.range (m - len)).map fun j => D (len + j), by simp [Function.comp_def]⟩, ?_, by simp; omega, hl⟩
    · intro r hr
      obtain ⟨i, hi, rfl⟩ := List.mem_map.1 hr
      have hi := List.mem_range.1 hi
      obtain ⟨h1, h2⟩ := hR i (by omega)
      exact ⟨(World.cells?_some h1).2.1, n, Pl i, h2⟩
    · have hlen : ∀ k, k ≤ len → (((List.range k).map fun i => (R i, D i)).flatMap (·.1)).length = k * size := by
        intro k hk
        induction k with
        | zero => simp
        | succ k ih =>
          rw [List.range_succ, List.map_append, List.flatMap_append, List.length_append, ih (by omega)]
          simp [(World.cells?_some (hR k (by omega)).1).2.1, Nat.succ_mul]
      refine ⟨by simpa using hlen len (Nat.le_refl _), some a, cap, by simp, ?_⟩
      rcases Nat.eq_zero_or_pos len with rfl | hpl
      · exact .inl (by simp)
      · right
        have h0 := (World.cells?_some (hR 0 (by omega)).1).2.2 0 hpos
        have hl0 := (World.cells?_some (hR 0 (by omega)).1).2.1
        have h0' : W.cell? a = some ((R 0)[0]'(by omega)) := by
          have : (a.add (0 * size)).add 0 = a := by unfold Addr.add; simp
          rw [this] at h0
          rw [h0, List.getElem?_eq_getElem (by omega)]
        obtain ⟨b, o, s⟩ := a
        have hs := (cell_plain h0').1
        simp only at hs
        subst hs
        refine ⟨b, o, rfl, ?_⟩
        have : ∀ k, k ≤ len → Rd W.heap b o (((List.range k).map fun i => (R i, D i)).flatMap (·.1)) := by
          intro k hk
          induction k with
          | zero => intro j v hv; simp at hv
          | succ k ih =>
            intro j v hv
            rw [List.range_succ, List.map_append, List.flatMap_append] at hv
            rcases Nat.lt_or_ge j (k * size) with hj | hj
            · rw [List.getElem?_append_left (by rw [hlen k (by omega)]; exact hj)] at hv
              exact ih (by omega) j v hv
            · rw [List.getElem?_append_right (by rw [hlen k (by omega)]; exact hj), hlen k (by omega)] at hv
              simp only [List.map_cons, List.map_nil, List.flatMap_cons, List.flatMap_nil, List.append_nil] at hv
              obtain ⟨h1, h2, h3⟩ := World.cells?_some (hR k (by omega)).1
              have hj2 : j - k * size < size := by
                rcases Nat.lt_or_ge (j - k * size) size with h' | h'
                · exact h'
                · rw [List.getElem?_eq_none (by omega)] at hv; cases hv
              have h4 := h3 (j - k * size) hj2
              rw [hv, add_off, add_off] at h4
              have h5 := (cell_plain h4).2
              rw [show o + k * size + (j - k * size) = o + j by omega] at h5
              exact h5
        exact this len (Nat.le_refl _)
end
section
variable {P : Program} {h : Heap} {τ ρ : Env} {K : Value → Heap → Prop} {ty : TypeId}
/-- append(s, l...) where l is any slice. -/
theorem eff_append_slN {t e : TypeId} {size bytes : Nat} (hT : slT P t e size bytes = true) {x y : Operand} {base : Nat} {v u : Value} {n m : Nat} {xs news : List Value}
    (hx : evo τ ρ x = some v) (hy : evo τ ρ y = some u) (hown : Own h base e size v n xs) (hs : SlN h size u m news) (h1 : ∀ u ∈ news, oneCell u = true)
    (h63 : n + m ≤ 9223372036854775807) (hbytes : (n + m) * bytes ≤ 140737488355328) (hbase : base ≤ h.size)
    (H : ∀ v' h', Own h' base e size v' (n + m) (xs ++ news) → Fr (fun k => v.ownBlock = some k) h h' → K v' h') :
    eff P (.call { callee := .builtin .append, args := #[x, y], argTypes := #[t, t] }) ty τ ρ h K := by
  obtain ⟨i, z, t1, t2, t3, t4, t5, t6, t7⟩ := slT_spec hT
  obtain ⟨hl, a, c, rfl, h0⟩ := hs
  refine eff_append_src hT hx hy hown (fun w hw => ?_) h63 hbytes hbase fun v' h' a b _ => H v' h' a b
  subst hw
  rcases h0 with rfl | ⟨b, o, rfl, hr⟩
  · have : news = [] := List.length_eq_zero_iff.1 (by rw [hl]; simp)
    subst this
    cases a with
    | none => exact Src.ofNil w t1 c
    | some a => exact Src.ofSlice w t1 a 0 c [] (by simp) (by simp) (by simp)
  · refine Src.ofSlice w t1 ⟨b, o, none⟩ m c news hl (fun j u hu => ?_) fun u hu => by have := h1 u hu; cases u <;> first | rfl | (simp [oneCell] at this)
    have := hr j u hu
    have ha : (⟨b, o, none⟩ : Addr).add j = ⟨b, o + j, none⟩ := by
      unfold Addr.add; split
      · next h' => subst h'; rfl
      · rfl
    rw [ha]; exact this
end
section
variable {P : Program} {h : Heap}
/-! ### A struct out of its parts -/
def bldE (P : Program) (t : TypeId) (is : List Nat) (vs : List Value) (h : Heap) : Option Value := rd P (Instr.build t (is.zip vs).toArray) h
theorem zip_parts {τ ρ : Env} : ∀ (l : List (Nat × Operand)) (vs : List Value), evs τ ρ (l.map (·.2)) = some vs → (l.map fun p => (p.1, evd τ ρ p.2)) = (l.map (·.1)).zip vs := by
  intro l
  induction l with
  | nil => intro vs h; cases h; rfl
  | cons x l ih =>
    intro vs h
    simp only [List.map_cons, evs] at h
    cases hx : evo τ ρ x.2 with
    | none => rw [hx] at h; cases h
    | some v =>
      rw [hx] at h
      cases hr : evs τ ρ (l.map (·.2)) with
      | none => rw [hr] at h; cases h
      | some us =>
        rw [hr] at h
        cases h
        simp only [List.map_cons, List.zip_cons_cons, ih us hr]
        simp [evd, hx]
theorem rdo_build {t : TypeId} {l : List (Nat × Operand)} {ty : TypeId} {τ ρ : Env} {h : Heap} : rdo P (.build t l.toArray) ty τ ρ h = (evs τ ρ (l.map (·.2))).bind fun vs => bldE P t (l.map (·.1)) vs h := by
  unfold rdo rdOp
  have hk : known τ ρ (.build t l.toArray) ↔ ∀ x ∈ l.map (·.2), (evo τ ρ x).isSome = true := by simp [known, Op.operands]
  cases hv : evs τ ρ (l.map (·.2)) with
  | some vs =>
    rw [if_pos (hk.2 (evs_some _ vs hv).1)]
    simp only [execOp, Sop.oper, valOf_v, bldE, Option.bind_some, List.map_toArray]
    rw [← zip_parts l vs hv]
  | none =>
    rw [if_neg]
    · rfl
    · intro hh
      have hh := hk.1 hh
      have : ∀ (l : List Operand), (∀ x ∈ l, (evo τ ρ x).isSome = true) → evs τ ρ l ≠ none := by
        intro l
        induction l with
        | nil => intro _ hn; cases hn
        | cons x r ih =>
          intro hx hn
          have h1 := hx x (by simp)
          simp only [evs] at hn
          cases hx' : evo τ ρ x with
          | none => rw [hx'] at h1; cases h1
          | some v =>
            rw [hx'] at hn
            cases hr : evs τ ρ r with
            | none => exact ih (fun y hy => hx y (by simp [hy])) hr
            | some l' => rw [hr] at hn; cases hn
      exact this _ hh hv
theorem rd_places : ∀ (fs : List Field) (places : List (Nat × Nat)), fs.mapM (fun f => (P.info? f.type).map fun i => (f.offset, i.size)) = some places →
    rd P (fs.mapM fun f => Functor.map (Prod.mk f.offset) (sizeOf f.type)) h = some places := by
  intro fs
  induction fs with
  | nil => intro places h; simp at h; subst h; simp [rd_pure]
  | cons f fs ih =>
    intro places hp
    simp only [List.mapM_cons, Option.bind_eq_bind, Option.pure_def] at hp
    cases hi : P.info? f.type with
    | none => simp [hi] at hp
    | some i =>
      cases hr : fs.mapM (fun f => (P.info? f.type).map fun i => (f.offset, i.size)) with
      | none => simp [hi, hr] at hp
      | some rest =>
        simp [hi, hr] at hp
        subst hp
        rw [List.mapM_cons, rd_bind', map_eq_pure_bind, rd_bind', rd_sizeOf hi]
        simp only [Option.bind_some, rd_pure, rd_bind', ih rest hr]
theorem rd_zeroValue {t : TypeId} {i : TypeInfo} {z : Value} (hi : P.info? t = some i) (hz : i.zero = some z) : rd P (zeroValue t) h = some z := by
  unfold zeroValue; rw [rd_bind', rd_typeInfo hi, Option.bind_some]; simp only [hz, rd_pure]
theorem bldE_of {t : TypeId} {is : List Nat} {vs : List Value} {cells : Array Value} (hb : P.built t (is.zip vs) = some cells) : bldE P t is vs h = some (.agg cells) := by
  unfold Program.built at hb
  unfold bldE
  cases hit : P.info? t with
  | none => simp [hit] at hb
  | some it =>
    cases hu : P.underlying t with
    | none => simp [hit, hu] at hb
    | some d =>
      cases hz : it.zero with
      | none => cases d <;> simp [hit, hu, hz] at hb
      | some z =>
        cases d <;> try (simp [hit, hu] at hb; done)
        case array n e =>
          cases hie : P.info? e with
          | none => simp [hit, hu, hz, hie] at hb
          | some ie =>
            simp only [hit, hu, hz, hie] at hb
            simp only [Instr.build, rd_bind', rd_zeroValue hit hz, rd_underlying hu, rd_sizeOf hie, Option.bind_some, hb, rd_pure]
        case struct fields =>
          cases hp : fields.toList.mapM (fun f => (P.info? f.type).map fun i => (f.offset, i.size)) with
          | none => simp only [hit, hu, hz, hp] at hb; cases hb
          | some places =>
            simp only [hit, hu, hz, hp] at hb
            have e : (fields.mapM fun f => (do pure (f.offset, ← sizeOf f.type) : Sem (Nat × Nat))) = Functor.map List.toArray (fields.toList.mapM fun f => Functor.map (Prod.mk f.offset) (sizeOf f.type)) := by
              rw [Array.mapM_eq_mapM_toList]; simp only [map_eq_pure_bind]
            simp only [Instr.build, rd_bind', rd_zeroValue hit hz, rd_underlying hu, Option.bind_some]
            rw [e, map_eq_pure_bind, rd_bind', rd_places _ _ hp]
            simp only [Option.bind_some, rd_pure, hb]
end
theorem Own.new {h : Heap} {base : Nat} {e : TypeId} {size n : Nat} {vs : List Value} (hl : vs.length = n * size) (hm : n ≤ maxLen) (hb : base ≤ h.size) :
    Own (h.push (.cells vs.toArray e (0, 0))) base e size (.slice (some ⟨h.size, 0, none⟩) n n) n vs :=
  ⟨hl, .inr ⟨h.size, n, vs.toArray, (0, 0), rfl, hb, by simp, by simp, Nat.le_refl _, hm, by simpa using hl, by rw [← hl]; simp⟩⟩
section
variable {P : Program} {h : Heap}
def minE (P : Program) (ts : Array TypeId) (ty : TypeId) (a b : Value) (h : Heap) : Option Value := rd P (Builtin.min_ ts ty #[a, b]) h
theorem rdo_min {t t' : TypeId} {x y : Operand} {ty : TypeId} {τ ρ : Env} {h : Heap} : rdo P (.call { callee := .builtin .min, args := #[x, y], argTypes := #[t, t'] }) ty τ ρ h = (evo τ ρ x).bind fun a => (evo τ ρ y).bind fun b => minE P #[t, t'] ty a b h := by
  rw [rdo_2 (x := x) (y := y) (by rfl) (fun a b => minE P #[t, t'] ty a b h) fun e => ?_]
  simp only [execOp, Sop.oper, resolve, invoke, builtin, rd_bind', rd_pure, Option.bind_some, List.map_toArray, List.map_cons, List.map_nil]
  show valOf ((rd P (Builtin.min_ #[t, t'] ty #[e x, e y]) h).bind fun v => rd P (pure (Next.value v)) h) = _
  unfold minE
  cases rd P (Builtin.min_ #[t, t'] ty #[e x, e y]) h <;> rfl
theorem min_int {ts : Array TypeId} {ty : TypeId} {k : IntKind} {a b : Int} : minE P ts ty (.int k a) (.int k b) h = some (.int k (if b < a then b else a)) := by
  unfold minE Builtin.min_
  simp [List.foldlM, rd_bind', rd_pure, Builtin.min2]
end
end Go.Vc
namespace Go.Vc
set_option maxRecDepth 100000
set_option linter.defProp false
def vs := And.intro @vc_seq (And.intro @vc_region (And.intro @vc_draw (And.intro @vc_cond (And.intro @vc_skip (And.intro @vc_ret (And.intro @vc_exit (And.intro @vc_block (And.intro @ops_q (And.intro @ops_e (And.intro @ops_nil (And.intro @ops_gq (And.intro @ops_ge (And.intro @drw_q (And.intro @drw_e (And.intro @drw_nil (And.intro @drw_gq (And.intro @drw_ge (And.intro @kq_ap (And.intro @ke_ap (And.intro @kbq_ap (And.intro @kbe_ap (And.intro @kbu_ap (And.intro @kgq_ap (And.intro @kge_ap (And.intro @dq_ap (And.intro @de_ap (And.intro @dbq_ap (And.intro @dbe_ap (And.intro @dbu_ap (And.intro @dgq_ap (And.intro @dge_ap (And.intro @cc_ap (And.intro @ct_ap (And.intro @cr_ap (And.intro @stills_nil (And.intro @stills_cons (And.intro @stills_gcons (And.intro @rdo_move (And.intro @rdo_assign (And.intro @rdo_pick (And.intro @rdo_extract (And.intro @rdo_bin (And.intro @rdo_un (And.intro @rdo_cv (And.intro @rdo_ld (And.intro @rdo_fa (And.intro @rdo_fd (And.intro @rdo_ia (And.intro @rdo_ix (And.intro @rdo_lookup (And.intro @rdo_len (And.intro @rdo_sl_n (And.intro @rdo_sl_l (And.intro @rdo_sl_h (And.intro @rdo_sl_lh (And.intro @rdo_nc (And.intro @rdo_mkfunc (And.intro @mkF_ap (And.intro @evs_nil (And.intro @evs_cons (And.intro @ldE_ptr (And.intro @ncE_ptr (And.intro @pickV_bool (And.intro @exV_tuple (And.intro @evo_tmp (And.intro @evo_const (And.intro @evo_func (And.intro @evo_global (And.intro @lk_eq (And.intro @get_nil (And.intro @get_cons (And.intro @set_nil (And.intro @set_cons (And.intro @keep_nil (And.intro @keep_cons (And.intro @optc_some (And.intro @optc_none (And.intro @orElse_some (And.intro @orElse_none (And.intro @putT_t (And.intro @putT_r (And.intro @putT_n (And.intro @putR_t (And.intro @putR_r (And.intro @putR_n (And.intro @init_nil (And.intro @init_cons (And.intro @getD_nil (And.intro @getD_zero (And.intro @getD_succ (And.intro @gets_nil' (And.intro @gets_cons' (And.intro @res1_t (And.intro @res1_c (And.intro @cellV_ld (And.intro @tup_one (And.intro @tup_two (And.intro @tup_nil (And.intro @OptK_some (And.intro @OptK_none (And.intro @thn_normal (And.intro @thn_ret (And.intro @thn_exit (And.intro @inb_normal (And.intro @inb_ret (And.intro @inb_exit (And.intro @ret_normal (And.intro @ret_ret (And.intro @br_true (And.intro @br_false (And.intro @br_not (And.intro @asB_bool (And.intro @asB_undef (And.intro @klit_ap (And.intro @all1_nil (And.intro @all1_cons (And.intro @flatC_nil (And.intro @flatC_cons (And.intro @cells_str (And.intro @cells_int (And.intro @cells_bool (And.intro @cells_ptr (And.intro @cells_slice (And.intro @cells_agg (And.intro @kbox_ap (And.intro @kback_ap (And.intro @callV_fn (And.intro @kcall_ap (And.intro @kcalf_ap (And.intro @bin_shl (And.intro @bin_shr (And.intro @bits_8 (And.intro @bits_16 (And.intro @bits_32 (And.intro @bits_64 (And.intro @bits_i64 (And.intro @bits_i32 (And.intro @bin_add (And.intro @bin_sub (And.intro @bin_mul (And.intro @bin_quo (And.intro @bin_rem (And.intro @bin_eql (And.intro @bin_neq (And.intro @bin_lss (And.intro @bin_leq (And.intro @bin_gtr (And.intro @bin_geq (And.intro @bin_and (And.intro @bin_or (And.intro @bin_xor (And.intro @bin_andNot (And.intro @str_fold (And.intro @bin_str_add (And.intro @bin_str_eql (And.intro @bin_str_neq (And.intro @un_not (And.intro @wrap_i64 (And.intro @wrap_u8 (And.intro @wrap_u16 (And.intro @wrap_u32 (And.intro @wrap_i32 (And.intro @rdo_build (And.intro @rdo_min (And.intro @min_int (And.intro @vc_tree (And.intro @tr_done (And.intro @tr_both (And.intro @tr_q (And.intro @tr_e (And.intro @tr_gq (And.intro @tr_ge (And.intro @tq_ap (And.intro @te_ap (And.intro @tbq_ap (And.intro @tbe_ap (And.intro @tbu_ap (And.intro @tgq_ap (And.intro @tge_ap (And.intro @sq_eq (And.intro @sw_eq (And.intro @sc_eq (And.intro @sa_eq (@ss_eq))))))))))))))))))))))))))))))))))))))))))))))))))))))))))))))))))))))))))))))))))))))))))))))))))))))))))))))))))))))))))))))))))))))))))))))))))))))))))))))))))))))))))))))))))))))))
def vk := And.intro @and_true (And.intro @true_and (And.intro @List.getElem?_toArray.{0} (And.intro @List.getElem?_cons_zero.{0} (And.intro @List.getElem?_cons_succ.{0} (And.intro @Option.bind_some.{0, 0} (And.intro @Option.map_some.{0, 0} (And.intro @Option.isSome_some.{0} (And.intro @ne_eq.{1} (And.intro @Bool.not_true (And.intro @Bool.not_false (And.intro @Bool.true_eq_false (And.intro @Bool.false_eq_true (And.intro @Bool.not_eq_true' (And.intro @Bool.not_eq_false' (And.intro @Option.some.injEq.{0} (And.intro @decide_eq_true_eq (And.intro @decide_eq_false_iff_not (And.intro @not_true_eq_false (And.intro @not_false_eq_true (And.intro @decide_true (And.intro @decide_false (And.intro @List.size_toArray.{0} (And.intro @List.length_cons.{0} (And.intro @List.length_nil.{0} (And.intro @List.cons_append.{0} (And.intro @List.nil_append.{0} (And.intro @List.append_nil.{0} (And.intro @List.map_cons.{0, 0} (And.intro @List.map_nil.{0, 0} (And.intro @Array.size_push.{0} (And.intro @Int.toNat_natCast (And.intro @List.toList_toArray.{0} (And.intro @Nat.min_def (And.intro @Int.tdiv_eq_ediv_of_nonneg (And.intro @Int.tmod_eq_emod_of_nonneg (And.intro @Int.fdiv_eq_ediv_of_nonneg (And.intro @Nat.mul_one (And.intro @Nat.zero_add (And.intro @Nat.add_zero (And.intro @implies_true.{0} (And.intro @false_implies (@true_implies))))))))))))))))))))))))))))))))))))))))))
end Go.Vc
namespace Go.Vc
set_option linter.unusedSimpArgs false
set_option linter.unusedVariables false
section
variable {P : Program} {h : Heap} {t : TypeId} {x y : Operand}
theorem eqGuard_slice {op : BinOp} {a b : Option Addr} {n c n' c' : Nat} : eqGuard op t x y (.slice a n c) (.slice b n' c') = pure () := by
  unfold eqGuard; cases op <;> rfl
theorem eqGuard_ptr {op : BinOp} {a b : Option Addr} : eqGuard op t x y (.pointer a) (.pointer b) = pure () := by
  unfold eqGuard; cases op <;> rfl
theorem bin_snil_eql {e : TypeId} {a : Option Addr} {n c : Nat} (hu : P.underlying t = some (.slice e)) : binE P .eql t x y (.slice a n c) (.slice none 0 0) h = some (.bool a.isNone) := by
  unfold binE; rw [eqGuard_slice, rd_bind', rd_pure, Option.bind_some]
  show rd P (Op.equalIn (9999 + 1) t (.slice a n c) (.slice none 0 0) >>= fun b => pure (Value.bool b)) h = _
  rw [rd_bind', Op.equalIn, rd_bind', rd_underlying hu]
  cases a <;> rfl
theorem bin_snil_neq {e : TypeId} {a : Option Addr} {n c : Nat} (hu : P.underlying t = some (.slice e)) : binE P .neq t x y (.slice a n c) (.slice none 0 0) h = some (.bool a.isSome) := by
  unfold binE; rw [eqGuard_slice, rd_bind', rd_pure, Option.bind_some]
  show rd P (Op.equalIn (9999 + 1) t (.slice a n c) (.slice none 0 0) >>= fun b => pure (Value.bool (!b))) h = _
  rw [rd_bind', Op.equalIn, rd_bind', rd_underlying hu]
  cases a <;> rfl
theorem bin_pnil_eql {e : TypeId} {a : Option Addr} (hu : P.underlying t = some (.pointer e)) : binE P .eql t x y (.pointer a) (.pointer none) h = some (.bool a.isNone) := by
  unfold binE; rw [eqGuard_ptr, rd_bind', rd_pure, Option.bind_some]
  show rd P (Op.equalIn (9999 + 1) t (.pointer a) (.pointer none) >>= fun b => pure (Value.bool b)) h = _
  rw [rd_bind', Op.equalIn, rd_bind', rd_underlying hu]
  cases a <;> rfl
theorem bin_pnil_neq {e : TypeId} {a : Option Addr} (hu : P.underlying t = some (.pointer e)) : binE P .neq t x y (.pointer a) (.pointer none) h = some (.bool a.isSome) := by
  unfold binE; rw [eqGuard_ptr, rd_bind', rd_pure, Option.bind_some]
  show rd P (Op.equalIn (9999 + 1) t (.pointer a) (.pointer none) >>= fun b => pure (Value.bool (!b))) h = _
  rw [rd_bind', Op.equalIn, rd_bind', rd_underlying hu]
  cases a <;> rfl
end
section
variable {P : Program} {h : Heap}
def maxE (P : Program) (ts : Array TypeId) (ty : TypeId) (a b : Value) (h : Heap) : Option Value := rd P (Builtin.max_ ts ty #[a, b]) h
theorem rdo_max {t t' : TypeId} {x y : Operand} {ty : TypeId} {τ ρ : Env} {h : Heap} : rdo P (.call { callee := .builtin .max, args := #[x, y], argTypes := #[t, t'] }) ty τ ρ h = (evo τ ρ x).bind fun a => (evo τ ρ y).bind fun b => maxE P #[t, t'] ty a b h := by
  rw [rdo_2 (x := x) (y := y) (by rfl) (fun a b => maxE P #[t, t'] ty a b h) fun e => ?_]
  simp only [execOp, Sop.oper, resolve, invoke, builtin, rd_bind', rd_pure, Option.bind_some, List.map_toArray, List.map_cons, List.map_nil]
  show valOf ((rd P (Builtin.max_ #[t, t'] ty #[e x, e y]) h).bind fun v => rd P (pure (Next.value v)) h) = _
  unfold maxE
  cases rd P (Builtin.max_ #[t, t'] ty #[e x, e y]) h <;> rfl
theorem max_int {ts : Array TypeId} {ty : TypeId} {k : IntKind} {a b : Int} : maxE P ts ty (.int k a) (.int k b) h = some (.int k (if a < b then b else a)) := by
  unfold maxE Builtin.max_
  simp [List.foldlM, rd_bind', rd_pure, Builtin.max2]
end
theorem Own.take {h : Heap} {base : Nat} {e : TypeId} {size : Nat} {a : Option Addr} {n c k : Nat} {xs : List Value} (H : Own h base e size (.slice a n c) n xs) (hk : k ≤ n) :
    Own h base e size (.slice (slA a c 0 size) (k - 0) (c - 0)) k (xs.take (k * size)) := by
  obtain ⟨hl, h0⟩ := H
  have hm : k * size ≤ n * size := Nat.mul_le_mul_right _ hk
  refine ⟨by rw [List.length_take, hl]; omega, ?_⟩
  rcases h0 with ⟨h1, rfl⟩ | ⟨g, cap, cur, fz, h1, hb, hg, hfz, hnc, hcm, hcs, htk⟩
  · cases h1
    have : k = 0 := by omega
    subst this
    exact .inl ⟨rfl, rfl⟩
  · cases h1
    refine .inr ⟨g, c, cur, fz, ?_, hb, hg, hfz, by omega, hcm, hcs, ?_⟩
    · unfold slA
      split
      · rfl
      · simp [Addr.add]
    · rw [← htk, List.take_take]
      congr 1; omega
theorem eff_storeN_z {P : Program} {τ ρ : Env} {h : Heap} {K : Value → Heap → Prop} {ty t : TypeId} {cz : Array Value} (hz : zrT P t cz) {x y : Operand} {b : Nat} {v : Value} {cur : Array Value} {e : TypeId}
    (hx : evo τ ρ x = some (.pointer (some ⟨b, 0, none⟩))) (hy : evo τ ρ y = some v) (hsz : v.cells.size = cz.size) (hone : ∀ u ∈ v.cells.toList, oneCell u = true) (hb : h[b]? = some (.cells cur e (0, 0))) (hcur : cur.size = cz.size)
    (H : ∀ h', Fr (fun k => k = b) h h' → h'[b]? = some (.cells v.cells e (0, 0)) → K undef h') : eff P (.store t x y) ty τ ρ h K := by
  obtain ⟨i, z, h1, h2, rfl, h3⟩ := zr_spec hz
  refine eff_storeN h1 hx hy (by omega) hone hb (by omega) (by intro j _ _; simp) fun h' hf hs hb' => H h' hf ?_
  rw [hb']
  have : cur.toList.drop (0 + i.size) = [] := by rw [List.drop_eq_nil_iff]; simp; omega
  rw [this]; simp
theorem eff_storeN_zz {P : Program} {τ ρ : Env} {h : Heap} {K : Value → Heap → Prop} {ty t : TypeId} {cz : Array Value} (hz : zrT P t cz) {x y : Operand} {b o : Nat} {v : Value} {cur : Array Value} {e : TypeId} {fz : Nat × Nat}
    (hx : evo τ ρ x = some (.pointer (some ⟨b, o, none⟩))) (hy : evo τ ρ y = some v) (hsz : v.cells.size = cz.size) (hone : ∀ u ∈ v.cells.toList, oneCell u = true) (hb : h[b]? = some (.cells cur e fz)) (hlen : o + cz.size ≤ cur.size)
    (hfz : ∀ j, o ≤ j → j < o + cz.size → ¬ (fz.1 ≤ j ∧ j < fz.2))
    (H : ∀ h', Fr (fun k => k = b) h h' → h'[b]? = some (.cells (cur.toList.take o ++ v.cells.toList ++ cur.toList.drop (o + cz.size)).toArray e fz) → K undef h') : eff P (.store t x y) ty τ ρ h K := by
  obtain ⟨i, z, h1, h2, rfl, h3⟩ := zr_spec hz
  rw [← h3] at hlen hfz
  refine eff_storeN h1 hx hy (by omega) hone hb hlen hfz fun h' hf hs hb' => H h' hf ?_
  rw [hb', h3]
/-- A row of one's own slice, to be written. -/
theorem Own.row {h : Heap} {base : Nat} {e : TypeId} {size : Nat} {v : Value} {n : Nat} {ys : List Value} (H : Own h base e size v n ys) {i : Nat} (hi : i < n) :
    ∃ g c cur fz, v = .slice (some ⟨g, 0, none⟩) n c ∧ h[g]? = some (.cells cur e fz) ∧ i * size + size ≤ cur.size ∧ (∀ j, i * size ≤ j → j < i * size + size → ¬ (fz.1 ≤ j ∧ j < fz.2)) ∧
      ∀ h' row, row.length = size → h'[g]? = some (.cells (cur.toList.take (i * size) ++ row ++ cur.toList.drop (i * size + size)).toArray e fz) → Own h' base e size v n (ys.take (i * size) ++ row ++ ys.drop (i * size + size)) := by
  obtain ⟨hl, h0⟩ := H
  rcases h0 with ⟨_, rfl⟩ | ⟨g, cap, cur, fz, rfl, hb, hg, hfz, hnc, hcm, hcs, htk⟩
  · omega
  · have h1 : i * size + size ≤ n * size := by
      have := Nat.mul_le_mul_right size (show i + 1 ≤ n by omega)
      rw [Nat.add_mul, Nat.one_mul] at this; exact this
    have h2 : n * size ≤ cap * size := Nat.mul_le_mul_right _ hnc
    refine ⟨g, cap, cur, fz, rfl, hg, by omega, fun j _ hj => hfz j (by omega), fun h' row hr hg' => ?_⟩
    refine ⟨?_, .inr ⟨g, cap, _, fz, rfl, hb, hg', hfz, hnc, hcm, ?_, ?_⟩⟩
    · simp only [List.length_append, List.length_take, List.length_drop, hl, hr]; omega
    · simp only [List.size_toArray, List.length_append, List.length_take, List.length_drop, Array.length_toList, hcs, hr]; omega
    · subst htk
      simp only []
      rw [List.take_take, Nat.min_eq_left (by omega : i * size ≤ n * size), List.take_append, List.take_append]
      have e1 : (cur.toList.take (i * size)).length = i * size := by rw [List.length_take, Array.length_toList]; omega
      have e3 : (cur.toList.take (i * size) ++ row).length = i * size + size := by rw [List.length_append, e1, hr]
      rw [e1, e3, List.take_of_length_le (l := cur.toList.take (i * size)) (by omega), List.take_of_length_le (l := row) (by omega), List.drop_take]
end Go.Vc
namespace Go.Vc
set_option linter.unusedSimpArgs false
set_option linter.unusedVariables false
section
variable {P : Program} {τ ρ : Env} {h : Heap} {K : Value → Heap → Prop} {ty : TypeId}
theorem eff_copy_str {t tx e : TypeId} {bytes : Nat} (hT : slT P t e 1 bytes = true) {x y : Operand} {base gb n cap at' : Nat} {l bs : List UInt8}
    (hx : evo τ ρ x = some (.slice (slA (some ⟨gb, 0, none⟩) cap at' 1) (n - at') (cap - at'))) (hy : evo τ ρ y = some (str l)) (hown : Own h base e 1 (.slice (some ⟨gb, 0, none⟩) n cap) n (bytesV bs)) (hl : at' + l.length ≤ n) (hp : 0 < l.length)
    (H : ∀ h', Fr (fun k => k = gb) h h' → Own h' base e 1 (.slice (some ⟨gb, 0, none⟩) n cap) n (bytesV (bs.take at' ++ l ++ bs.drop (at' + l.length))) → K (.int .i64 (l.length : Int)) h') :
    eff P (.call { callee := .builtin .copy, args := #[x, y], argTypes := #[t, tx] }) ty τ ρ h K := by
  obtain ⟨i, z, t1, t2, t3, t4, t5, t6, t7⟩ := slT_spec hT
  obtain ⟨hlen, h0⟩ := hown
  rcases h0 with ⟨hc, _⟩ | ⟨g', cap', cur, fz, hv, hb, hg, hfz, hnc, hcm, hcs, htk⟩
  · cases hc
  cases hv
  have hsl : slA (some ⟨gb, 0, none⟩) cap at' 1 = some ⟨gb, at', none⟩ := by
    unfold slA
    rw [if_neg (by omega)]
    simp [Addr.add]
    intro h; exact h.symm
  rw [hsl] at hx
  refine eff_2 (x := x) (y := y) (by rfl) hx hy fun f hf1 hf2 => ?_
  intro w hw
  subst hw
  have hst := run_storeCells_cells (P := P) gb at' (bytesV l) 0 w (fun j hj => by simp [bytesV] at hj; simp [World.cell?, hg]; omega)
    (fun j hj => by
      simp [bytesV] at hj
      have := hfz (at' + 0 + j) (by omega)
      simp only [World.frozen?, hg, Bool.and_eq_false_iff, decide_eq_false_iff_not]
      omega) (fun u hu => by simp [bytesV] at hu; obtain ⟨c, _, rfl⟩ := hu; rfl)
  simp only [Nat.add_zero] at hst
  have hbl : (bytesV l).length = l.length := by simp [bytesV]
  rw [setCells_row gb e fz (bytesV l) at' cur w hg (by rw [hbl]; omega), hbl] at hst
  have hbc : (byteCells ⟨l.toArray⟩) = bytesV l := by simp [byteCells, bytesV]
  have hfc : (Builtin.firstCells 1 l.length (str l)).run P w = .ok (bytesV l).toArray w := by
    have := firstCells_string (P := P) ⟨l.toArray⟩ w
    rw [hbc] at this
    exact this
  have hsz : ∀ s : ByteArray, (ByteArray.mk l.toArray).size = l.length := fun _ => by simp [ByteArray.size]
  have hmin : Nat.min l.length (n - at') = l.length := Nat.min_eq_left (by omega)
  have hlo : ∀ w', (Builtin.lenOf (str l)).run P w' = .ok l.length w' := fun w' => by
    show (pure (ByteArray.mk l.toArray).size : Sem Nat).run P w' = _
    rw [hsz ⟨l.toArray⟩]; rfl
  refine ⟨.value (.int .i64 (l.length : Int)), w.setRow gb (cur.toList.take at' ++ bytesV l ++ cur.toList.drop (at' + l.length)).toArray, ?_, ⟨rfl, rfl, rfl⟩, H _ ⟨by simp, fun k hk hn => setRow_other w gb k _ hn⟩ ⟨?_, .inr ⟨gb, cap, _, fz, rfl, hb, setRow_heap w gb cur _ e _ hg, hfz, hnc, hcm, ?_, ?_⟩⟩⟩
  · have hcp : (Builtin.copy_ #[t, tx] ty #[.slice (some ⟨gb, at', none⟩) (n - at') (cap - at'), str l]).run P w = .ok (.int .i64 (l.length : Int)) (w.setRow gb (cur.toList.take at' ++ bytesV l ++ cur.toList.drop (at' + l.length)).toArray) := by
      simp [Builtin.copy_, run_underlying t1, sizeOf, typeInfo, t2, hlo, hmin, t4, hfc, hst, goInt]
    simp only [execOp, Sop.oper, resolve, invoke, builtin, Sem.run_bind, Sem.run_pure, Result.andThen, List.map_toArray, List.map_cons, List.map_nil, hf1, hf2, hcp]
  · rw [Nat.mul_one] at hlen ⊢
    have : bs.length = n := by simpa [bytesV] using hlen
    simp [bytesV]; omega
  · simp only [List.size_toArray, List.length_append, List.length_take, List.length_drop, Array.length_toList, hbl]; omega
  · have hbn : bs.length = n := by simpa [bytesV] using hlen
    simp only [Nat.mul_one] at htk ⊢
    have h1 : (cur.toList.take at').length = at' := by rw [List.length_take, Array.length_toList]; omega
    rw [List.take_append, List.take_append, List.length_append, h1, hbl, List.take_of_length_le (l := cur.toList.take at') (by omega), List.take_of_length_le (l := bytesV l) (by omega)]
    have e1 : bytesV (bs.take at' ++ l ++ bs.drop (at' + l.length)) = (bytesV bs).take at' ++ bytesV l ++ (bytesV bs).drop (at' + l.length) := by simp [bytesV]
    rw [e1, ← htk, List.take_take, Nat.min_eq_left (by omega : at' ≤ n), List.drop_take]
end
end Go.Vc

/- Structs compared with themselves; slices of structs as arguments, opened row by row. No condition. The rewriting rules in one bundle. No condition. More rules: slices and pointers against nil; the front of one's own slice. No condition. 'copy' of a text into one's own bytes. Range over a text, the text of a number, elements of an array behind a pointer, functions of Go's library that have no body. Branches that the context decides. Maps whose keys are numbers, texts or bools. Maps whose keys are rows of texts; entries that are taken and stored. No condition. -/
import Derived.Test.YtflocjbhcjhenaaGreatDoorVcJ
import Derived.Deep.Slices
import Derived.ChangeSame
import Derived.Laws.Tables
import Derived.Laws.Sem
import Derived.WalkKit
import Derived.Deep.AppendSrc
import Derived.Lib.Bytealg
import Derived.MapKept
set_option linter.unusedSimpArgs false
set_option linter.unusedVariables false
namespace Go.Vc
section
variable {P : Program} {h : Heap}
def fitV (P : Program) (t : TypeId) (v : Value) : Bool := match P.underlying t, v with
  | some .bool, .bool _ => true
  | some (.int _), .int _ _ => true
  | some .string, .string _ => true
  | _, _ => false
theorem rd_eq_refl {t : TypeId} {v : Value} {d : Nat} (hf : fitV P t v = true) : rd P (Op.equalIn (d + 1) t v v) h = some true := by
  unfold fitV at hf
  split at hf
  · next hu => rw [Op.equalIn, rd_bind', rd_underlying hu]; simp [rd_pure]
  · next hu => rw [Op.equalIn, rd_bind', rd_underlying hu]; simp [rd_pure]
  · next s hu =>
    rw [Op.equalIn, rd_bind', rd_underlying hu]
    have : (s == s) = true := by
      first | exact beq_self_eq_true s | exact decide_eq_true rfl | (cases s; first | exact beq_self_eq_true (α := Array UInt8) _ | (simp [BEq.beq, ByteArray.beq]; done) | (unfold BEq.beq; simp [ByteArray.beq]; done))
    simp [rd_pure, this]
  · cases hf
theorem rd_part {t : TypeId} {v : Value} {cs : Array Value} {off : Nat} (hf : fitV P t v = true) (hc : cs[off]? = some v) : rd P (part t cs off) h = some v := by
  unfold fitV at hf
  split at hf
  · next hu => unfold part; rw [rd_bind', rd_isAgg hu]; simp [hc, rd_pure]
  · next hu => unfold part; rw [rd_bind', rd_isAgg hu]; simp [hc, rd_pure]
  · next hu => unfold part; rw [rd_bind', rd_isAgg hu]; simp [hc, rd_pure]
  · cases hf
def eqaC (P : Program) (t : TypeId) (cs : List Value) : Bool := match P.underlying t with
  | some (.struct fs) => !(P.stoodInHeld t) && !(P.eqGuardType P.depth t) && fs.toList.all fun f => match cs[f.offset]? with | some v => fitV P f.type v | none => false
  | _ => false
theorem rd_eq_agg {t : TypeId} {cs : List Value} {d : Nat} (hf : eqaC P t cs = true) : rd P (Op.equalIn (d + 2) t (.agg cs.toArray) (.agg cs.toArray)) h = some true := by
  unfold eqaC at hf
  split at hf
  · next fs hu =>
    simp only [Bool.and_eq_true, Bool.not_eq_true', List.all_eq_true] at hf
    obtain ⟨⟨h1, h2⟩, h3⟩ := hf
    rw [Op.equalIn, rd_bind', rd_underlying hu, Option.bind_some]
    dsimp only
    rw [rd_bind', show rd P (program) h = some P from rfl, Option.bind_some, h1]
    simp only [Bool.false_eq_true, if_false]
    rw [← Array.forIn_toList]
    have key : ∀ (l : List Field) (s : Option Bool × Unit), (∀ f ∈ l, f ∈ fs.toList) → s = (none, ()) →
        ∀ (g : Field → Option Bool × Unit → Sem (ForInStep (Option Bool × Unit))), (∀ f ∈ fs.toList, rd P (g f (none, ())) h = some (.yield (none, ()))) →
        rd P (forIn l s g) h = some (none, ()) := by
      intro l
      induction l with
      | nil => intro s _ hs g _; subst hs; simp [rd_pure]
      | cons f l ih =>
        intro s hl hs g hg
        subst hs
        rw [List.forIn_cons, rd_bind', hg f (hl f (by simp)), Option.bind_some]
        exact ih _ (fun f hf => hl f (by simp [hf])) rfl g hg
    rw [rd_bind', key fs.toList _ (fun _ h => h) rfl _ ?_]
    · simp [rd_pure]
    · intro f hfm
      have h4 := h3 f hfm
      split at h4
      · next v hv =>
        have hv' : cs.toArray[f.offset]? = some v := by simpa using hv
        by_cases hn : f.name = "_"
        · simp [hn, rd_pure]
        · simp only [ne_eq, hn, not_false_eq_true, if_true]
          simp only [rd_bind', rd_part h4 hv', Option.bind_some, rd_eq_refl h4]
          simp [rd_pure]
      · cases h4
  · cases hf
theorem eqGuard_agg {t : TypeId} {cs cs' : List Value} {op : BinOp} {x y : Operand} (hf : eqaC P t cs = true) : rd P (eqGuard op t x y (.agg cs.toArray) (.agg cs'.toArray)) h = some () := by
  unfold eqaC at hf
  split at hf
  · next fs hu =>
    simp only [Bool.and_eq_true, Bool.not_eq_true', List.all_eq_true] at hf
    obtain ⟨⟨h1, h2⟩, h3⟩ := hf
    unfold eqGuard
    cases op <;> first | rfl | (simp only [Bool.not_true, Bool.false_eq_true, if_false]; rw [rd_bind', show rd P (program) h = some P from rfl, Option.bind_some, rd_bind', show rd P (program) h = some P from rfl, Option.bind_some, h2]; simp [rd_pure])
  · cases hf
theorem bin_agg_neq {t : TypeId} {cs : List Value} {x y : Operand} (hf : eqaC P t cs = true) : binE P .neq t x y (.agg cs.toArray) (.agg cs.toArray) h = some (.bool false) := by
  unfold binE
  rw [rd_bind', eqGuard_agg hf, Option.bind_some]
  show rd P (Op.equalIn (9998 + 2) t (.agg cs.toArray) (.agg cs.toArray) >>= fun b => pure (Value.bool !b)) h = _
  rw [rd_bind', rd_eq_agg hf, Option.bind_some]; rfl
end
def capOk : Value → Prop
  | .slice _ n c => n ≤ c
  | _ => True
theorem Own.capOk {h : Heap} {base : Nat} {e : TypeId} {size : Nat} {v : Value} {n : Nat} {xs : List Value} (H : Own h base e size v n xs) : Go.Vc.capOk v := by
  rcases H.2 with ⟨rfl, rfl⟩ | ⟨g, cap, cur, fz, rfl, _, _, _, hn, _⟩
  · exact Nat.le_refl 0
  · exact hn
section
variable {P : Program} {h : Heap}
def slA (a : Option Addr) (c lo size : Nat) : Option Addr := if c = lo then a else a.map (·.add (lo * size))
theorem sl_sl_lh {t e : TypeId} {a : Option Addr} {n c size bytes : Nat} {k k' : IntKind} {lo hi : Int} (hT : slT P t e size bytes = true) (h0 : 0 ≤ lo) (h1 : lo ≤ hi) (h2 : hi ≤ c) :
    slE P t (.slice a n c) (some (.int k lo)) (some (.int k' hi)) none h = some (.slice (slA a c lo.toNat size) (hi.toNat - lo.toNat) (c - lo.toNat)) := by
  obtain ⟨i, z, t1, t2, t3, t4, t5, t6, t7⟩ := slT_spec hT
  unfold slE Instr.sliceAt
  rw [rd_bind', rd_underlying t1, Option.bind_some]
  simp only [Instr.slice, rd_bind', rd_underlying t1, Option.bind_some, Instr.sliceBounds, rd_pure]
  rw [rd_bound (by omega) (by omega)]
  simp only [Option.bind_some]
  rw [rd_bound h0 (by omega)]
  simp only [Option.bind_some, rd_sizeOf t2, slA, t4]
theorem sl_sl_l {t e : TypeId} {a : Option Addr} {n c size bytes : Nat} {k : IntKind} {lo : Int} (hT : slT P t e size bytes = true) (h0 : 0 ≤ lo) (h1 : lo ≤ n) :
    slE P t (.slice a n c) (some (.int k lo)) none none h = some (.slice (slA a c lo.toNat size) (n - lo.toNat) (c - lo.toNat)) := by
  obtain ⟨i, z, t1, t2, t3, t4, t5, t6, t7⟩ := slT_spec hT
  unfold slE Instr.sliceAt
  rw [rd_bind', rd_underlying t1, Option.bind_some]
  simp only [Instr.slice, rd_bind', rd_underlying t1, Option.bind_some, Instr.sliceBounds, rd_pure]
  rw [rd_bound h0 h1]
  simp only [Option.bind_some, rd_sizeOf t2, slA, t4]
theorem sl_sl_h {t e : TypeId} {a : Option Addr} {n c size bytes : Nat} {k' : IntKind} {hi : Int} (hT : slT P t e size bytes = true) (h1 : 0 ≤ hi) (h2 : hi ≤ c) :
    slE P t (.slice a n c) none (some (.int k' hi)) none h = some (.slice (slA a c 0 size) (hi.toNat - 0) (c - 0)) := by
  obtain ⟨i, z, t1, t2, t3, t4, t5, t6, t7⟩ := slT_spec hT
  unfold slE Instr.sliceAt
  rw [rd_bind', rd_underlying t1, Option.bind_some]
  simp only [Instr.slice, rd_bind', rd_underlying t1, Option.bind_some, Instr.sliceBounds, rd_pure]
  rw [rd_bound h1 h2]
  simp only [Option.bind_some, rd_sizeOf t2, slA, t4]
theorem SlN.sub {a : Option Addr} {n c size lo hi : Nat} {xs : List Value} (H : SlN h size (.slice a n c) n xs) (h1 : lo ≤ hi) (h2 : hi ≤ n) (hc : n ≤ c) :
    SlN h size (.slice (slA a c lo size) (hi - lo) (c - lo)) (hi - lo) ((xs.take (hi * size)).drop (lo * size)) := by
  obtain ⟨hl, a', c', he, h3⟩ := H
  cases he
  have hm : hi * size ≤ n * size := Nat.mul_le_mul_right _ h2
  refine ⟨by rw [List.length_drop, List.length_take, hl, Nat.min_eq_left hm, Nat.sub_mul], _, _, rfl, ?_⟩
  rcases Nat.eq_or_lt_of_le h1 with rfl | hlt
  · exact .inl (by omega)
  · rcases h3 with rfl | ⟨b, o, rfl, hr⟩
    · omega
    · right
      refine ⟨b, o + lo * size, ?_, ?_⟩
      · unfold slA
        rw [if_neg (by omega)]
        simp only [Option.map_some, Option.some.injEq]
        unfold Addr.add; split
        · next h' => rw [h', Nat.add_zero]
        · rfl
      · intro j v hv
        rw [List.getElem?_drop, List.getElem?_take] at hv
        split at hv
        · have := hr _ v hv
          rwa [← Nat.add_assoc] at this
        · cases hv
end
section
variable {P : Program} {h : Heap}
end
section
open Go.ChangeShapes Go.WideShapes Go.Deep
variable {H : Type} {enc : TypeId × Value → H} {P : Program} {W : World} {base : Nat} {spare : Nat → Bool} {held : Bool}
theorem cell_plain {a : Addr} {v : Value} (hc : W.cell? a = some v) : a.spot = none ∧ cellAt W.heap a = some v := by
  obtain ⟨b, o, s⟩ := a
  cases s with
  | some s => simp only [World.cell?, Option.isSome_some, if_true] at hc; split at hc <;> cases hc
  | none => exact ⟨rfl, hc⟩
theorem add_off {b o k : Nat} : Addr.add ⟨b, o, none⟩ k = ⟨b, o + k, none⟩ := by
  unfold Addr.add; split
  · next h' => subst h'; rfl
  · rfl
theorem rows_open {t e : TypeId} {fuel : Nat} {v : Value} {x : DataW H × List MemPlace} {size : Nat} (ht : P.underlying t = some (.slice e)) (hsz : P.cellsOf e = size) (hpos : 0 < size)
    (hr : DataW.trod enc P W base spare held fuel t [v] = some x) :
    ∃ rows : List (List Value × DataW H), (∀ r ∈ rows, r.1.length = size ∧ ∃ n q, DataW.trod enc P W base spare held n e r.1 = some (r.2, q)) ∧
      (x.1 = .nil ∧ rows = [] ∨ ∃ sp, x.1 = .slice (rows.map (·.2)) sp) ∧ SlN W.heap size v rows.length (rows.flatMap (·.1)) ∧ rows.length ≤ maxLen ∧ capOk v := by
  rcases open_slice ht hr with ⟨hv, rfl⟩ | ⟨a, len, cap, m, n, D, Pl, hv, hb, hl, hm, hmm, rfl, hx⟩
  · cases hv
    exact ⟨[], by simp, .inl ⟨rfl, rfl⟩, ⟨by simp, _, _, rfl, .inl rfl⟩, Nat.zero_le _, Nat.le_refl _⟩
  · cases hv
    have hlm : len ≤ m := by rw [hmm]; split <;> omega
    rw [hsz] at hx
    obtain ⟨R, hR⟩ := choose_lt (α := List Value) (p := fun i cs' => W.cells? base (a.add (i * size)) size = some cs' ∧ DataW.trod enc P W base spare held n e cs' = some (D i, Pl i)) (fun i hi => hx i hi)
    refine ⟨(List.range len).map fun i => (R i, D i), ?_, .inr ⟨(List.range (m - len)).map fun j => D (len + j), by simp [Function.comp_def]⟩, ?_, by simp; omega, hl⟩
    · intro r hr
      obtain ⟨i, hi, rfl⟩ := List.mem_map.1 hr
      have hi := List.mem_range.1 hi
      obtain ⟨h1, h2⟩ := hR i (by omega)
      exact ⟨(World.cells?_some h1).2.1, n, Pl i, h2⟩
    · have hlen : ∀ k, k ≤ len → (((List.range k).map fun i => (R i, D i)).flatMap (·.1)).length = k * size := by
        intro k hk
        induction k with
        | zero => simp
        | succ k ih =>
          rw [List.range_succ, List.map_append, List.flatMap_append, List.length_append, ih (by omega)]
          simp [(World.cells?_some (hR k (by omega)).1).2.1, Nat.succ_mul]
      refine ⟨by simpa using hlen len (Nat.le_refl _), some a, cap, by simp, ?_⟩
      rcases Nat.eq_zero_or_pos len with rfl | hpl
      · exact .inl (by simp)
      · right
        have h0 := (World.cells?_some (hR 0 (by omega)).1).2.2 0 hpos
        have hl0 := (World.cells?_some (hR 0 (by omega)).1).2.1
        have h0' : W.cell? a = some ((R 0)[0]'(by omega)) := by
          have : (a.add (0 * size)).add 0 = a := by unfold Addr.add; simp
          rw [this] at h0
          rw [h0, List.getElem?_eq_getElem (by omega)]
        obtain ⟨b, o, s⟩ := a
        have hs := (cell_plain h0').1
        simp only at hs
        subst hs
        refine ⟨b, o, rfl, ?_⟩
        have : ∀ k, k ≤ len → Rd W.heap b o (((List.range k).map fun i => (R i, D i)).flatMap (·.1)) := by
          intro k hk
          induction k with
          | zero => intro j v hv; simp at hv
          | succ k ih =>
            intro j v hv
            rw [List.range_succ, List.map_append, List.flatMap_append] at hv
            rcases Nat.lt_or_ge j (k * size) with hj | hj
            · rw [List.getElem?_append_left (by rw [hlen k (by omega)]; exact hj)] at hv
              exact ih (by omega) j v hv
            · rw [List.getElem?_append_right (by rw [hlen k (by omega)]; exact hj), hlen k (by omega)] at hv
              simp only [List.map_cons, List.map_nil, List.flatMap_cons, List.flatMap_nil, List.append_nil] at hv
              obtain ⟨h1, h2, h3⟩ := World.cells?_some (hR k (by omega)).1
              have hj2 : j - k * size < size := by
                rcases Nat.lt_or_ge (j - k * size) size with h' | h'
                · exact h'
                · rw [List.getElem?_eq_none (by omega)] at hv; cases hv
              have h4 := h3 (j - k * size) hj2
              rw [hv, add_off, add_off] at h4
              have h5 := (cell_plain h4).2
              rw [show o + k * size + (j - k * size) = o + j by omega] at h5
              exact h5
        exact this len (Nat.le_refl _)
end
section
variable {P : Program} {h : Heap} {τ ρ : Env} {K : Value → Heap → Prop} {ty : TypeId}
theorem eff_append_slN {t e : TypeId} {size bytes : Nat} (hT : slT P t e size bytes = true) {x y : Operand} {base : Nat} {v u : Value} {n m : Nat} {xs news : List Value}
    (hx : evo τ ρ x = some v) (hy : evo τ ρ y = some u) (hown : Own h base e size v n xs) (hs : SlN h size u m news) (h1 : ∀ u ∈ news, oneCell u = true)
    (h63 : n + m ≤ 9223372036854775807) (hbytes : (n + m) * bytes ≤ 140737488355328) (hbase : base ≤ h.size)
    (H : ∀ v' h', Own h' base e size v' (n + m) (xs ++ news) → Fr (fun k => v.ownBlock = some k) h h' → K v' h') :
    eff P (.call { callee := .builtin .append, args := #[x, y], argTypes := #[t, t] }) ty τ ρ h K := by
  obtain ⟨i, z, t1, t2, t3, t4, t5, t6, t7⟩ := slT_spec hT
  obtain ⟨hl, a, c, rfl, h0⟩ := hs
  refine eff_append_src hT hx hy hown (fun w hw => ?_) h63 hbytes hbase fun v' h' a b _ => H v' h' a b
  subst hw
  rcases h0 with rfl | ⟨b, o, rfl, hr⟩
  · have : news = [] := List.length_eq_zero_iff.1 (by rw [hl]; simp)
    subst this
    cases a with
    | none => exact Src.ofNil w t1 c
    | some a => exact Src.ofSlice w t1 a 0 c [] (by simp) (by simp) (by simp)
  · refine Src.ofSlice w t1 ⟨b, o, none⟩ m c news hl (fun j u hu => ?_) fun u hu => by have := h1 u hu; cases u <;> first | rfl | (simp [oneCell] at this)
    have := hr j u hu
    have ha : (⟨b, o, none⟩ : Addr).add j = ⟨b, o + j, none⟩ := by
      unfold Addr.add; split
      · next h' => subst h'; rfl
      · rfl
    rw [ha]; exact this
end
section
variable {P : Program} {h : Heap}
def bldE (P : Program) (t : TypeId) (is : List Nat) (vs : List Value) (h : Heap) : Option Value := rd P (Instr.build t (is.zip vs).toArray) h
theorem zip_parts {τ ρ : Env} : ∀ (l : List (Nat × Operand)) (vs : List Value), evs τ ρ (l.map (·.2)) = some vs → (l.map fun p => (p.1, evd τ ρ p.2)) = (l.map (·.1)).zip vs := by
  intro l
  induction l with
  | nil => intro vs h; cases h; rfl
  | cons x l ih =>
    intro vs h
    simp only [List.map_cons, evs] at h
    cases hx : evo τ ρ x.2 with
    | none => rw [hx] at h; cases h
    | some v =>
      rw [hx] at h
      cases hr : evs τ ρ (l.map (·.2)) with
      | none => rw [hr] at h; cases h
      | some us =>
        rw [hr] at h
        cases h
        simp only [List.map_cons, List.zip_cons_cons, ih us hr]
        simp [evd, hx]
theorem rdo_build {t : TypeId} {l : List (Nat × Operand)} {ty : TypeId} {τ ρ : Env} {h : Heap} : rdo P (.build t l.toArray) ty τ ρ h = (evs τ ρ (l.map (·.2))).bind fun vs => bldE P t (l.map (·.1)) vs h := by
  unfold rdo rdOp
  have hk : known τ ρ (.build t l.toArray) ↔ ∀ x ∈ l.map (·.2), (evo τ ρ x).isSome = true := by simp [known, Op.operands]
  cases hv : evs τ ρ (l.map (·.2)) with
  | some vs =>
    rw [if_pos (hk.2 (evs_some _ vs hv).1)]
    simp only [execOp, Sop.oper, valOf_v, bldE, Option.bind_some, List.map_toArray]
    rw [← zip_parts l vs hv]
  | none =>
    rw [if_neg]
    · rfl
    · intro hh
      have hh := hk.1 hh
      have : ∀ (l : List Operand), (∀ x ∈ l, (evo τ ρ x).isSome = true) → evs τ ρ l ≠ none := by
        intro l
        induction l with
        | nil => intro _ hn; cases hn
        | cons x r ih =>
          intro hx hn
          have h1 := hx x (by simp)
          simp only [evs] at hn
          cases hx' : evo τ ρ x with
          | none => rw [hx'] at h1; cases h1
          | some v =>
            rw [hx'] at hn
            cases hr : evs τ ρ r with
            | none => exact ih (fun y hy => hx y (by simp [hy])) hr
            | some l' => rw [hr] at hn; cases hn
      exact this _ hh hv
theorem rd_places : ∀ (fs : List Field) (places : List (Nat × Nat)), fs.mapM (fun f => (P.info? f.type).map fun i => (f.offset, i.size)) = some places →
    rd P (fs.mapM fun f => Functor.map (Prod.mk f.offset) (sizeOf f.type)) h = some places := by
  intro fs
  induction fs with
  | nil => intro places h; simp at h; subst h; simp [rd_pure]
  | cons f fs ih =>
    intro places hp
    simp only [List.mapM_cons, Option.bind_eq_bind, Option.pure_def] at hp
    cases hi : P.info? f.type with
    | none => simp [hi] at hp
    | some i =>
      cases hr : fs.mapM (fun f => (P.info? f.type).map fun i => (f.offset, i.size)) with
      | none => simp [hi, hr] at hp
      | some rest =>
        simp [hi, hr] at hp
        subst hp
        rw [List.mapM_cons, rd_bind', map_eq_pure_bind, rd_bind', rd_sizeOf hi]
        simp only [Option.bind_some, rd_pure, rd_bind', ih rest hr]
theorem rd_zeroValue {t : TypeId} {i : TypeInfo} {z : Value} (hi : P.info? t = some i) (hz : i.zero = some z) : rd P (zeroValue t) h = some z := by
  unfold zeroValue; rw [rd_bind', rd_typeInfo hi, Option.bind_some]; simp only [hz, rd_pure]
theorem bldE_of {t : TypeId} {is : List Nat} {vs : List Value} {cells : Array Value} (hb : P.built t (is.zip vs) = some cells) : bldE P t is vs h = some (.agg cells) := by
  unfold Program.built at hb
  unfold bldE
  cases hit : P.info? t with
  | none => simp [hit] at hb
  | some it =>
    cases hu : P.underlying t with
    | none => simp [hit, hu] at hb
    | some d =>
      cases hz : it.zero with
      | none => cases d <;> simp [hit, hu, hz] at hb
      | some z =>
        cases d <;> try (simp [hit, hu] at hb; done)
        case array n e =>
          cases hie : P.info? e with
          | none => simp [hit, hu, hz, hie] at hb
          | some ie =>
            simp only [hit, hu, hz, hie] at hb
            simp only [Instr.build, rd_bind', rd_zeroValue hit hz, rd_underlying hu, rd_sizeOf hie, Option.bind_some, hb, rd_pure]
        case struct fields =>
          cases hp : fields.toList.mapM (fun f => (P.info? f.type).map fun i => (f.offset, i.size)) with
          | none => simp only [hit, hu, hz, hp] at hb; cases hb
          | some places =>
            simp only [hit, hu, hz, hp] at hb
            have e : (fields.mapM fun f => (do pure (f.offset, ← sizeOf f.type) : Sem (Nat × Nat))) = Functor.map List.toArray (fields.toList.mapM fun f => Functor.map (Prod.mk f.offset) (sizeOf f.type)) := by
              rw [Array.mapM_eq_mapM_toList]; simp only [map_eq_pure_bind]
            simp only [Instr.build, rd_bind', rd_zeroValue hit hz, rd_underlying hu, Option.bind_some]
            rw [e, map_eq_pure_bind, rd_bind', rd_places _ _ hp]
            simp only [Option.bind_some, rd_pure, hb]
end
theorem Own.new {h : Heap} {base : Nat} {e : TypeId} {size n : Nat} {vs : List Value} (hl : vs.length = n * size) (hm : n ≤ maxLen) (hb : base ≤ h.size) :
    Own (h.push (.cells vs.toArray e (0, 0))) base e size (.slice (some ⟨h.size, 0, none⟩) n n) n vs :=
  ⟨hl, .inr ⟨h.size, n, vs.toArray, (0, 0), rfl, hb, by simp, by simp, Nat.le_refl _, hm, by simpa using hl, by rw [← hl]; simp⟩⟩
section
variable {P : Program} {h : Heap}
def minE (P : Program) (ts : Array TypeId) (ty : TypeId) (a b : Value) (h : Heap) : Option Value := rd P (Builtin.min_ ts ty #[a, b]) h
theorem rdo_min {t t' : TypeId} {x y : Operand} {ty : TypeId} {τ ρ : Env} {h : Heap} : rdo P (.call { callee := .builtin .min, args := #[x, y], argTypes := #[t, t'] }) ty τ ρ h = (evo τ ρ x).bind fun a => (evo τ ρ y).bind fun b => minE P #[t, t'] ty a b h := by
  rw [rdo_2 (x := x) (y := y) (by rfl) (fun a b => minE P #[t, t'] ty a b h) fun e => ?_]
  simp only [execOp, Sop.oper, resolve, invoke, builtin, rd_bind', rd_pure, Option.bind_some, List.map_toArray, List.map_cons, List.map_nil]
  show valOf ((rd P (Builtin.min_ #[t, t'] ty #[e x, e y]) h).bind fun v => rd P (pure (Next.value v)) h) = _
  unfold minE
  cases rd P (Builtin.min_ #[t, t'] ty #[e x, e y]) h <;> rfl
theorem min_int {ts : Array TypeId} {ty : TypeId} {k : IntKind} {a b : Int} : minE P ts ty (.int k a) (.int k b) h = some (.int k (if b < a then b else a)) := by
  unfold minE Builtin.min_
  simp [List.foldlM, rd_pure, Builtin.min2]
end
end Go.Vc
namespace Go.Vc
set_option maxRecDepth 100000
set_option linter.defProp false
def vs := And.intro @vc_seq (And.intro @vc_region (And.intro @vc_draw (And.intro @vc_cond (And.intro @vc_skip (And.intro @vc_ret (And.intro @vc_exit (And.intro @vc_block (And.intro @ops_q (And.intro @ops_e (And.intro @ops_nil (And.intro @ops_gq (And.intro @ops_ge (And.intro @drw_q (And.intro @drw_e (And.intro @drw_nil (And.intro @drw_gq (And.intro @drw_ge (And.intro @kq_ap (And.intro @ke_ap (And.intro @kbq_ap (And.intro @kbe_ap (And.intro @kbu_ap (And.intro @kgq_ap (And.intro @kge_ap (And.intro @dq_ap (And.intro @de_ap (And.intro @dbq_ap (And.intro @dbe_ap (And.intro @dbu_ap (And.intro @dgq_ap (And.intro @dge_ap (And.intro @cc_ap (And.intro @ct_ap (And.intro @cr_ap (And.intro @stills_nil (And.intro @stills_cons (And.intro @stills_gcons (And.intro @rdo_move (And.intro @rdo_assign (And.intro @rdo_pick (And.intro @rdo_extract (And.intro @rdo_bin (And.intro @rdo_un (And.intro @rdo_cv (And.intro @rdo_ld (And.intro @rdo_fa (And.intro @rdo_fd (And.intro @rdo_ia (And.intro @rdo_ix (And.intro @rdo_lookup (And.intro @rdo_len (And.intro @rdo_sl_n (And.intro @rdo_sl_l (And.intro @rdo_sl_h (And.intro @rdo_sl_lh (And.intro @rdo_nc (And.intro @rdo_mkfunc (And.intro @mkF_ap (And.intro @evs_nil (And.intro @evs_cons (And.intro @ldE_ptr (And.intro @ncE_ptr (And.intro @pickV_bool (And.intro @exV_tuple (And.intro @evo_tmp (And.intro @evo_const (And.intro @evo_func (And.intro @evo_global (And.intro @lk_eq (And.intro @get_nil (And.intro @get_cons (And.intro @set_nil (And.intro @set_cons (And.intro @keep_nil (And.intro @keep_cons (And.intro @optc_some (And.intro @optc_none (And.intro @orElse_some (And.intro @orElse_none (And.intro @putT_t (And.intro @putT_r (And.intro @putT_n (And.intro @putR_t (And.intro @putR_r (And.intro @putR_n (And.intro @init_nil (And.intro @init_cons (And.intro @getD_nil (And.intro @getD_zero (And.intro @getD_succ (And.intro @gets_nil' (And.intro @gets_cons' (And.intro @res1_t (And.intro @res1_c (And.intro @cellV_ld (And.intro @tup_one (And.intro @tup_two (And.intro @tup_nil (And.intro @OptK_some (And.intro @OptK_none (And.intro @thn_normal (And.intro @thn_ret (And.intro @thn_exit (And.intro @inb_normal (And.intro @inb_ret (And.intro @inb_exit (And.intro @ret_normal (And.intro @ret_ret (And.intro @br_true (And.intro @br_false (And.intro @br_not (And.intro @asB_bool (And.intro @asB_undef (And.intro @klit_ap (And.intro @all1_nil (And.intro @all1_cons (And.intro @flatC_nil (And.intro @flatC_cons (And.intro @cells_str (And.intro @cells_int (And.intro @cells_bool (And.intro @cells_ptr (And.intro @cells_slice (And.intro @cells_agg (And.intro @kbox_ap (And.intro @kback_ap (And.intro @callV_fn (And.intro @kcall_ap (And.intro @kcalf_ap (And.intro @bin_shl (And.intro @bin_shr (And.intro @bits_8 (And.intro @bits_16 (And.intro @bits_32 (And.intro @bits_64 (And.intro @bits_i64 (And.intro @bits_i32 (And.intro @bin_add (And.intro @bin_sub (And.intro @bin_mul (And.intro @bin_quo (And.intro @bin_rem (And.intro @bin_eql (And.intro @bin_neq (And.intro @bin_lss (And.intro @bin_leq (And.intro @bin_gtr (And.intro @bin_geq (And.intro @bin_and (And.intro @bin_or (And.intro @bin_xor (And.intro @bin_andNot (And.intro @str_fold (And.intro @bin_str_add (And.intro @bin_str_eql (And.intro @bin_str_neq (And.intro @un_not (And.intro @wrap_i64 (And.intro @wrap_u8 (And.intro @wrap_u16 (And.intro @wrap_u32 (And.intro @wrap_i32 (And.intro @rdo_build (And.intro @rdo_min (And.intro @min_int (And.intro @vc_tree (And.intro @tr_done (And.intro @tr_both (And.intro @tr_q (And.intro @tr_e (And.intro @tr_gq (And.intro @tr_ge (And.intro @tq_ap (And.intro @te_ap (And.intro @tbq_ap (And.intro @tbe_ap (And.intro @tbu_ap (And.intro @tgq_ap (And.intro @tge_ap (And.intro @sq_eq (And.intro @sw_eq (And.intro @sc_eq (And.intro @sa_eq (@ss_eq))))))))))))))))))))))))))))))))))))))))))))))))))))))))))))))))))))))))))))))))))))))))))))))))))))))))))))))))))))))))))))))))))))))))))))))))))))))))))))))))))))))))))))))))))))))))
def vk := And.intro @and_true (And.intro @true_and (And.intro @List.getElem?_toArray.{0} (And.intro @List.getElem?_cons_zero.{0} (And.intro @List.getElem?_cons_succ.{0} (And.intro @Option.bind_some.{0, 0} (And.intro @Option.map_some.{0, 0} (And.intro @Option.isSome_some.{0} (And.intro @ne_eq.{1} (And.intro @Bool.not_true (And.intro @Bool.not_false (And.intro @Bool.true_eq_false (And.intro @Bool.false_eq_true (And.intro @Bool.not_eq_true' (And.intro @Bool.not_eq_false' (And.intro @Option.some.injEq.{0} (And.intro @decide_eq_true_eq (And.intro @decide_eq_false_iff_not (And.intro @not_true_eq_false (And.intro @not_false_eq_true (And.intro @decide_true (And.intro @decide_false (And.intro @List.size_toArray.{0} (And.intro @List.length_cons.{0} (And.intro @List.length_nil.{0} (And.intro @List.cons_append.{0} (And.intro @List.nil_append.{0} (And.intro @List.append_nil.{0} (And.intro @List.map_cons.{0, 0} (And.intro @List.map_nil.{0, 0} (And.intro @Array.size_push.{0} (And.intro @Int.toNat_natCast (And.intro @List.toList_toArray.{0} (And.intro @Nat.min_def (And.intro @Int.tdiv_eq_ediv_of_nonneg (And.intro @Int.tmod_eq_emod_of_nonneg (And.intro @Int.fdiv_eq_ediv_of_nonneg (And.intro @Nat.mul_one (And.intro @Nat.zero_add (And.intro @Nat.add_zero (And.intro @implies_true.{0} (And.intro @false_implies (@true_implies))))))))))))))))))))))))))))))))))))))))))
end Go.Vc
namespace Go.Vc
section
variable {P : Program} {h : Heap} {t : TypeId} {x y : Operand}
end
section
variable {P : Program} {h : Heap}
end
theorem Own.take {h : Heap} {base : Nat} {e : TypeId} {size : Nat} {a : Option Addr} {n c k : Nat} {xs : List Value} (H : Own h base e size (.slice a n c) n xs) (hk : k ≤ n) :
    Own h base e size (.slice (slA a c 0 size) (k - 0) (c - 0)) k (xs.take (k * size)) := by
  obtain ⟨hl, h0⟩ := H
  have hm : k * size ≤ n * size := Nat.mul_le_mul_right _ hk
  refine ⟨by rw [List.length_take, hl]; omega, ?_⟩
  rcases h0 with ⟨h1, rfl⟩ | ⟨g, cap, cur, fz, h1, hb, hg, hfz, hnc, hcm, hcs, htk⟩
  · cases h1
    have : k = 0 := by omega
    subst this
    exact .inl ⟨rfl, rfl⟩
  · cases h1
    refine .inr ⟨g, c, cur, fz, ?_, hb, hg, hfz, by omega, hcm, hcs, ?_⟩
    · unfold slA
      split
      · rfl
      · simp [Addr.add]
    · rw [← htk, List.take_take]
      congr 1; omega
theorem eff_storeN_z {P : Program} {τ ρ : Env} {h : Heap} {K : Value → Heap → Prop} {ty t : TypeId} {cz : Array Value} (hz : zrT P t cz) {x y : Operand} {b : Nat} {v : Value} {cur : Array Value} {e : TypeId}
    (hx : evo τ ρ x = some (.pointer (some ⟨b, 0, none⟩))) (hy : evo τ ρ y = some v) (hsz : v.cells.size = cz.size) (hone : ∀ u ∈ v.cells.toList, oneCell u = true) (hb : h[b]? = some (.cells cur e (0, 0))) (hcur : cur.size = cz.size)
    (H : ∀ h', Fr (fun k => k = b) h h' → h'[b]? = some (.cells v.cells e (0, 0)) → K undef h') : eff P (.store t x y) ty τ ρ h K := by
  obtain ⟨i, z, h1, h2, rfl, h3⟩ := zr_spec hz
  refine eff_storeN h1 hx hy (by omega) hone hb (by omega) (by intro j _ _; simp) fun h' hf hs hb' => H h' hf ?_
  rw [hb']
  have : cur.toList.drop (0 + i.size) = [] := by rw [List.drop_eq_nil_iff]; simp; omega
  rw [this]; simp
theorem eff_storeN_zz {P : Program} {τ ρ : Env} {h : Heap} {K : Value → Heap → Prop} {ty t : TypeId} {cz : Array Value} (hz : zrT P t cz) {x y : Operand} {b o : Nat} {v : Value} {cur : Array Value} {e : TypeId} {fz : Nat × Nat}
    (hx : evo τ ρ x = some (.pointer (some ⟨b, o, none⟩))) (hy : evo τ ρ y = some v) (hsz : v.cells.size = cz.size) (hone : ∀ u ∈ v.cells.toList, oneCell u = true) (hb : h[b]? = some (.cells cur e fz)) (hlen : o + cz.size ≤ cur.size)
    (hfz : ∀ j, o ≤ j → j < o + cz.size → ¬ (fz.1 ≤ j ∧ j < fz.2))
    (H : ∀ h', Fr (fun k => k = b) h h' → h'[b]? = some (.cells (cur.toList.take o ++ v.cells.toList ++ cur.toList.drop (o + cz.size)).toArray e fz) → K undef h') : eff P (.store t x y) ty τ ρ h K := by
  obtain ⟨i, z, h1, h2, rfl, h3⟩ := zr_spec hz
  rw [← h3] at hlen hfz
  refine eff_storeN h1 hx hy (by omega) hone hb hlen hfz fun h' hf hs hb' => H h' hf ?_
  rw [hb', h3]
theorem Own.row {h : Heap} {base : Nat} {e : TypeId} {size : Nat} {v : Value} {n : Nat} {ys : List Value} (H : Own h base e size v n ys) {i : Nat} (hi : i < n) :
    ∃ g c cur fz, v = .slice (some ⟨g, 0, none⟩) n c ∧ h[g]? = some (.cells cur e fz) ∧ i * size + size ≤ cur.size ∧ (∀ j, i * size ≤ j → j < i * size + size → ¬ (fz.1 ≤ j ∧ j < fz.2)) ∧
      ∀ h' row, row.length = size → h'[g]? = some (.cells (cur.toList.take (i * size) ++ row ++ cur.toList.drop (i * size + size)).toArray e fz) → Own h' base e size v n (ys.take (i * size) ++ row ++ ys.drop (i * size + size)) := by
  obtain ⟨hl, h0⟩ := H
  rcases h0 with ⟨_, rfl⟩ | ⟨g, cap, cur, fz, rfl, hb, hg, hfz, hnc, hcm, hcs, htk⟩
  · omega
  · have h1 : i * size + size ≤ n * size := by
      have := Nat.mul_le_mul_right size (show i + 1 ≤ n by omega)
      rw [Nat.add_mul, Nat.one_mul] at this; exact this
    have h2 : n * size ≤ cap * size := Nat.mul_le_mul_right _ hnc
    refine ⟨g, cap, cur, fz, rfl, hg, by omega, fun j _ hj => hfz j (by omega), fun h' row hr hg' => ?_⟩
    refine ⟨?_, .inr ⟨g, cap, _, fz, rfl, hb, hg', hfz, hnc, hcm, ?_, ?_⟩⟩
    · simp only [List.length_append, List.length_take, List.length_drop, hl, hr]; omega
    · simp only [List.size_toArray, List.length_append, List.length_take, List.length_drop, Array.length_toList, hcs, hr]; omega
    · subst htk
      simp only []
      rw [List.take_take, Nat.min_eq_left (by omega : i * size ≤ n * size), List.take_append, List.take_append]
      have e1 : (cur.toList.take (i * size)).length = i * size := by rw [List.length_take, Array.length_toList]; omega
      have e3 : (cur.toList.take (i * size) ++ row).length = i * size + size := by rw [List.length_append, e1, hr]
      rw [e1, e3, List.take_of_length_le (l := cur.toList.take (i * size)) (by omega), List.take_of_length_le (l := row) (by omega), List.drop_take]
end Go.Vc
namespace Go.Vc
section
variable {P : Program} {τ ρ : Env} {h : Heap} {K : Value → Heap → Prop} {ty : TypeId}
end
end Go.Vc
namespace Go.Vc
section
variable {P : Program} {τ ρ : Env} {h : Heap} {K : Value → Heap → Prop} {ty : TypeId}
theorem eff_callX {g : FuncId} {fn : Func} {e : Array Value → Sem Value} {args : List Operand} {ats : Array TypeId} {vs : List Value} {v : Value}
    (hv : evs τ ρ args = some vs) (hf : P.funcs[g]? = some fn) (hname : (fn.name == "runtime.NumGoroutine") = false) (hb : fn.body.isNone = true) (hn : Extern.findNext fn = none) (he : Extern.find fn = some e)
    (hrun : ∀ w : World, (e vs.toArray).run P w = .ok v w) (H : K v h) : eff P (.call { callee := .value (.func g), args := args.toArray, argTypes := ats }) ty τ ρ h K := by
  obtain ⟨k1, k2⟩ := evs_some args vs hv
  refine ⟨?_, ?_⟩
  · intro x hx
    simp only [Op.operands, Call.operands] at hx
    rcases Array.mem_append.1 hx with hx | hx
    · simp at hx; subst hx; rfl
    · exact k1 x (by simpa using hx)
  · simp only [execOp, Sop.oper, resolve]
    have he2 : evd τ ρ (.func g) = .func (.func g) #[] #[] := rfl
    rw [he2]
    intro w hw
    refine ⟨.value v, w, ?_, ⟨rfl, rfl, rfl⟩, by rw [hw]; exact H⟩
    have hc := run_callFunc_extern (P := P) hf hname hb hn he vs.toArray w
    rw [hrun w] at hc
    rw [Sem.run_bind]
    show Result.andThen ((Sem.pure _ : Sem _).run P w) _ = _
    simp only [Result.andThen, invoke]
    show (callFunc g ((#[] ++ args.toArray.map (evd τ ρ)) ++ #[])).run P w = _
    rw [List.map_toArray, k2]
    simpa using hc
theorem eff_range_str {t : TypeId} {x : Operand} {l : List UInt8} (hu : P.underlying t = some .string) (hx : evo τ ρ x = some (str l))
    (H : K (.pointer (some ⟨h.size, 0, none⟩)) (h.push (.stringIter ⟨l.toArray⟩ 0))) : eff P (.range t x) ty τ ρ h K := by
  refine eff_1 (by rfl) hx fun f hf => ?_
  simp only [execOp, Sop.oper, hf]
  refine sr_v (sr_of_hr ?_)
  show hr P (Instr.range t (.string ⟨l.toArray⟩)) h K
  unfold Instr.range
  rw [hr_bind']
  refine hr_of_rd _ _ _ _ (rd_underlying hu) ?_
  exact H
theorem hr_getIter {r pos : Nat} {s : ByteArray} {K : Obj → Heap → Prop} (hr' : h[r]? = some (.stringIter s pos)) (H : K (.stringIter s pos) h) : hr P (getObj r) h K := by
  unfold getObj
  simp only [hr]
  rw [hr']
  exact H
theorem hr_setIter {r pos : Nat} {s : ByteArray} {o : Obj} {K : Unit → Heap → Prop} (hr' : h[r]? = some (.stringIter s pos)) (H : K () (h.setIfInBounds r o)) : hr P (setObj r o) h K := by
  unfold setObj
  simp only [hr]
  rw [hr']
  exact H
def decU (l : List UInt8) (i : Nat) : Nat × Nat := Utf8.decode ⟨l.toArray⟩ i
theorem eff_next_str {x : Operand} {r pos : Nat} {l : List UInt8} (hx : evo τ ρ x = some (.pointer (some ⟨r, 0, none⟩))) (hr' : h[r]? = some (.stringIter ⟨l.toArray⟩ pos))
    (H1 : pos < l.length → K (.tuple #[.bool true, .int .i64 (pos : Int), .int .i32 ((decU l pos).1 : Int)]) (h.setIfInBounds r (.stringIter ⟨l.toArray⟩ (pos + (decU l pos).2))))
    (H0 : ¬ pos < l.length → K (.tuple #[.bool false]) h) : eff P (.next x true) ty τ ρ h K := by
  refine eff_1 (by rfl) hx fun f hf => ?_
  simp only [execOp, Sop.oper, hf]
  refine sr_v (sr_of_hr ?_)
  unfold Instr.next
  simp only [hr_bind']
  refine hr_getIter hr' ?_
  have hsz : (ByteArray.mk l.toArray).size = l.length := by simp [ByteArray.size]
  by_cases hp : pos < l.length
  · simp only [hsz, if_pos hp, hr_bind']
    refine hr_setIter hr' ?_
    exact H1 hp
  · simp only [hsz, if_neg hp]
    exact H0 hp
theorem Ext.iter {h hc : Heap} (H : Ext h hc) {it : Nat} {o : Obj} (hi : h.size ≤ it) : Ext h (hc.setIfInBounds it o) :=
  ⟨by rw [Array.size_setIfInBounds]; exact H.size, fun k hk hn => by
    rw [Array.getElem?_setIfInBounds, if_neg (by omega)]; exact H.same k hk hn⟩
theorem iter_get {hc : Heap} {it : Nat} {o o' : Obj} (hb : hc[it]? = some o') : (hc.setIfInBounds it o)[it]? = some o := by
  have := (Array.getElem?_eq_some_iff.1 hb).1
  simp [this]
def encU (n : Int) : List UInt8 := (Utf8.encode n).data.toList
theorem cv_rune {s d : TypeId} {k k' : IntKind} {n : Int} (hs : P.underlying s = some (.int k)) (hd : P.underlying d = some .string) : cvE P s d (.int k' n) h = some (str (encU n)) := by
  unfold cvE convert
  rw [rd_bind', rd_underlying hs, Option.bind_some, rd_bind', rd_underlying hd, Option.bind_some]
  rfl
def iarT (P : Program) (t : TypeId) (len size : Nat) : Bool := match P.underlying t with
  | some (.array n e) => n == len && (match P.info? e with
    | some i => i.size == size
    | none => false)
  | _ => false
theorem iar_of {t : TypeId} {len size b o : Nat} {k : IntKind} {i : Int} (ht : iarT P t len size = true) (h0 : 0 ≤ i) (h1 : i < len) :
    iaE P t (.pointer (some ⟨b, o, none⟩)) (.int k i) h = some (.pointer (some ⟨b, o + i.toNat * size, none⟩)) := by
  unfold iarT at ht
  cases hu : P.underlying t with
  | none => rw [hu] at ht; cases ht
  | some d =>
    rw [hu] at ht
    cases d <;> simp only [Bool.false_eq_true] at ht
    rename_i n e
    rw [Bool.and_eq_true] at ht
    obtain ⟨h2, ht⟩ := ht
    have h2 : n = len := by simpa using h2
    subst h2
    cases hi : P.info? e with
    | none => rw [hi] at ht; cases ht
    | some inf =>
      rw [hi] at ht
      have hs : inf.size = size := by simpa using ht
      unfold iaE Instr.indexAt
      simp only [asIntOf, Instr.sureAddr, rd_bind', rd_pure, Option.bind_some, rd_underlying hu, if_pos (And.intro h0 h1), rd_sizeOf hi, hs, addr_add]
end
end Go.Vc
namespace Go.Vc
theorem br_yes {c : Prop} {x y : Unit → Prop} (h : c) : br c x y = x () := propext ⟨fun H => H.1 h, fun H => ⟨fun _ => H, fun n => absurd h n⟩⟩
theorem br_no {c : Prop} {x y : Unit → Prop} (h : ¬ c) : br c x y = y () := propext ⟨fun H => H.2 h, fun H => ⟨fun n => absurd n h, fun _ => H⟩⟩
theorem dec_yes {c : Prop} [Decidable c] (h : c) : decide c = true := decide_eq_true h
theorem dec_no {c : Prop} [Decidable c] (h : ¬ c) : decide c = false := decide_eq_false h
set_option linter.defProp false in
def va := And.intro @br_yes (And.intro @br_no (And.intro @dec_yes @dec_no))
end Go.Vc
namespace Go.Vc
open Go.MapKept
def MapO {κ : Type} (mk : κ → Value) (h : Heap) (b : Nat) (F : κ → Option Value) : Prop :=
  ∃ es clock, h[b]? = some (.map es clock) ∧ Stamped es clock ∧ (∀ x ∈ es.toList, ∃ a, x.key = mk a) ∧ ∀ a v, F a = some v ↔ ∃ x ∈ es.toList, x.key = mk a ∧ x.val = v
def mpT (P : Program) (t : TypeId) (d : TypeDesc) (z : Value) : Prop := ∃ k e i, P.underlying t = some (.map k e) ∧ P.underlying k = some d ∧ P.info? e = some i ∧ i.zero = some z
section
variable {P : Program} {τ ρ : Env} {h : Heap} {K : Value → Heap → Prop} {ty : TypeId} {κ : Type} {mk : κ → Value} {F : κ → Option Value} {b : Nat}
theorem MapO.fr {S : Nat → Prop} {h' : Heap} (H : MapO mk h b F) (hf : Fr S h h') (hS : ¬ S b) : MapO mk h' b F := by
  obtain ⟨es, c, h1, h2, h3, h4⟩ := H
  exact ⟨es, c, by rw [hf.same b (Array.getElem?_eq_some_iff.1 h1).1 hS]; exact h1, h2, h3, h4⟩
theorem MapO.lt (H : MapO mk h b F) : b < h.size := by
  obtain ⟨es, c, h1, _⟩ := H
  exact (Array.getElem?_eq_some_iff.1 h1).1
theorem MapO.new : MapO mk (h.push (.map #[] 0)) h.size (fun _ => none) :=
  ⟨#[], 0, by simp, stamped_empty 0, by simp, by simp⟩
theorem rd_checkKey {kt : TypeId} {d : TypeDesc} {k : Value} (hd : P.underlying kt = some d) (hk : IsKey d k) (e : Bool) (n : Nat) : rd P (Instr.checkKey e (n + 1) kt k) h = some () := by
  unfold Instr.checkKey
  rw [rd_bind', rd_underlying hd, Option.bind_some]
  cases d <;> cases k <;> first | exact hk.elim | rfl
theorem rd_findKey {kt : TypeId} {d : TypeDesc} {k : Value} {l : List MapEntry} {a : Option (Nat × Value)} (hd : P.underlying kt = some d) (hf : Instr.findNow d k l 0 = some a) : rd P (Instr.findKey kt k l) h = some a := by
  unfold Instr.findKey
  rw [rd_bind', rd_underlying hd, Option.bind_some, hf]
  rfl
theorem rd_getMap {es : Array MapEntry} {c : Nat} (hb : h[b]? = some (.map es c)) : rd P (getObj b) h = some (.map es c) := by
  unfold getObj; simp only [rd, hb]
theorem lk_map {t : TypeId} {d : TypeDesc} {z : Value} (hT : mpT P t d z) (hk : ∀ a, IsKey d (mk a)) (H : MapO mk h b F) (a : κ) (ok : Bool) :
    lkE P t (.map (some b)) (mk a) ok h = some (if ok then .tuple #[(F a).getD z, .bool (F a).isSome] else (F a).getD z) := by
  obtain ⟨k, e, i, t1, t2, t3, t4⟩ := hT
  obtain ⟨es, c, h1, h2, h3, h4⟩ := H
  have hks : ∀ x ∈ es.toList, IsKey d x.key := by
    intro x hx
    obtain ⟨a', ha⟩ := h3 x hx
    rw [ha]; exact hk a'
  have hz : rd P (zeroValue e) h = some z := rd_zeroValue t3 t4
  unfold lkE Instr.lookup
  rw [rd_bind', rd_underlying t1, Option.bind_some]
  simp only [rd_bind', rd_getMap h1, rd_pure, Option.bind_some]
  rw [rd_checkKey t2 (hk a), Option.bind_some]
  rcases findNow_spec (hk a) es.toList 0 hks with ⟨f1, f2⟩ | ⟨j, e0, f1, f2, f3⟩
  · rw [rd_findKey t2 f1]
    have hn : F a = none := by
      cases hF : F a with
      | none => rfl
      | some v =>
        obtain ⟨x, hx, hxk, _⟩ := (h4 a v).1 hF
        exact absurd hxk (f2 x hx)
    simp only [Option.bind_some, rd_bind', hz, rd_pure, hn]
    cases ok <;> rfl
  · rw [rd_findKey t2 f1]
    have hn : F a = some e0.val := (h4 a _).2 ⟨e0, List.mem_of_getElem? f2, f3, rfl⟩
    simp only [Option.bind_some, rd_bind', rd_pure, hn]
    cases ok <;> rfl
theorem eff_makemap {t : TypeId} (H : K (.map (some h.size)) (h.push (.map #[] 0))) : eff P (.makeMap t none) ty τ ρ h K := by
  refine ⟨by intro x hx; simp [Op.operands] at hx, ?_⟩
  simp only [execOp, Sop.oper]
  refine sr_v (sr_of_run fun w hw => ?_)
  subst hw
  exact ⟨_, w.alloc (.map #[] 0), rfl, ⟨rfl, rfl, rfl⟩, H⟩
theorem eff_mapset [DecidableEq κ] {t : TypeId} {d : TypeDesc} {z : Value} (hT : mpT P t d z) (hk : ∀ a, IsKey d (mk a)) (hinj : ∀ a a', mk a = mk a' → a = a') {m x y : Operand} {a : κ} {v : Value}
    (hm : evo τ ρ m = some (.map (some b))) (hx : evo τ ρ x = some (mk a)) (hy : evo τ ρ y = some v) (H : MapO mk h b F)
    (hK : ∀ h', MapO mk h' b (fun a' => if a' = a then some v else F a') → Fr (fun k => k = b) h h' → h'.size = h.size → K undef h') : eff P (.mapUpdate t m x y) ty τ ρ h K := by
  obtain ⟨k, e, i, t1, t2, t3, t4⟩ := hT
  obtain ⟨es, c, h1, h2, h3, h4⟩ := H
  refine ⟨by intro u hu; simp [Op.operands] at hu; rcases hu with rfl | rfl | rfl <;> simp [hm, hx, hy], ?_⟩
  have hks : ∀ x ∈ es.toList, IsKey d x.key := by
    intro x hx
    obtain ⟨a', ha⟩ := h3 x hx
    rw [ha]; exact hk a'
  have e1 : evd τ ρ m = .map (some b) := by simp [evd, hm]
  have e2 : evd τ ρ x = mk a := by simp [evd, hx]
  have e3 : evd τ ρ y = v := by simp [evd, hy]
  have hlt : b < h.size := (Array.getElem?_eq_some_iff.1 h1).1
  simp only [execOp, Sop.oper, e1, e2, e3]
  refine sr_u (sr_of_run fun w hw => ?_)
  subst hw
  have fin : ∀ es' c', Fr (fun k => k = b) w.heap (w.heap.setIfInBounds b (.map es' c')) := fun es' c' => ⟨by simp, fun k' hk' hne => by simp [Ne.symm hne]⟩
  have getb : ∀ es' c', (w.heap.setIfInBounds b (.map es' c'))[b]? = some (.map es' c') := fun es' c' => by simp [hlt]
  rcases findNow_spec (hk a) es.toList 0 hks with ⟨f1, f2⟩ | ⟨j, e0, f1, f2, f3⟩
  · refine ⟨(), { w with heap := w.heap.setIfInBounds b (.map (es.push ⟨mk a, v, c⟩) (c + 1)) }, ?_, ⟨rfl, rfl, rfl⟩, hK _ ⟨_, _, getb _ _, stamped_push h2 f2, ?_, ?_⟩ (fin _ _) (by simp)⟩
    · simp [Instr.mapUpdate, run_underlying t1, MapKept.run_getObj_map h1, run_checkKey t2 (hk a), run_findKey t2 f1, MapKept.run_setObj_map _ h1, Result.andThen]
    · intro x hx
      simp only [Array.toList_push, List.mem_append, List.mem_singleton] at hx
      rcases hx with hx | rfl
      · exact h3 x hx
      · exact ⟨a, rfl⟩
    · intro a' v'
      simp only [Array.toList_push, List.mem_append, List.mem_singleton]
      by_cases ha : a' = a
      · subst ha
        simp only [if_true, Option.some.injEq]
        constructor
        · rintro rfl; exact ⟨_, Or.inr rfl, rfl, rfl⟩
        · rintro ⟨x, hx | rfl, hxk, hxv⟩
          · exact absurd hxk (f2 x hx)
          · exact hxv
      · simp only [if_neg ha]
        rw [h4]
        constructor
        · rintro ⟨x, hx, hxk, hxv⟩; exact ⟨x, Or.inl hx, hxk, hxv⟩
        · rintro ⟨x, hx | rfl, hxk, hxv⟩
          · exact ⟨x, hx, hxk, hxv⟩
          · exact absurd (hinj _ _ hxk).symm ha
  · have hj : es[j]? = some e0 := by simpa using f2
    have hjl : j < es.toList.length := (List.getElem?_eq_some_iff.1 f2).1
    have hstay : ∀ w' : World, (Instr.keyThatStays (mk a) (mk a)).run P w' = .ok (mk a) w' := fun w' => run_keyThatStays (hk a)
    refine ⟨(), { w with heap := w.heap.setIfInBounds b (.map (es.modify j fun e' => { e' with key := mk a, val := v }) c) }, ?_, ⟨rfl, rfl, rfl⟩, hK _ ⟨_, _, getb _ _, stamped_modify h2 _ _ (fun _ _ => rfl) (fun e' _ he' => by rw [hj] at he'; cases he'; exact f3.symm), ?_, ?_⟩ (fin _ _) (by simp)⟩
    · simp [Instr.mapUpdate, run_underlying t1, MapKept.run_getObj_map h1, run_checkKey t2 (hk a), run_findKey t2 f1, hj, f3, hstay, MapKept.run_setObj_map _ h1, Result.andThen]
    · intro x hx
      rcases List.mem_iff_getElem?.1 hx with ⟨i, hi⟩
      rw [Array.toList_modify, List.getElem?_modify] at hi
      split at hi
      · cases hg : es.toList[i]? with
        | none => rw [hg] at hi; cases hi
        | some y => rw [hg] at hi; cases hi; exact ⟨a, rfl⟩
      · cases hg : es.toList[i]? with
        | none => rw [hg] at hi; cases hi
        | some y => rw [hg] at hi; cases hi; exact h3 y (List.mem_of_getElem? hg)
    · have hnd := h2.2.2
      have huniq : ∀ i y, es.toList[i]? = some y → y.key = mk a → i = j := by
        intro i y hi hy
        have hil : i < es.toList.length := (List.getElem?_eq_some_iff.1 hi).1
        by_cases hij : i = j
        · exact hij
        · exfalso
          have q1 : (es.toList.map (·.key))[i]? = some (mk a) := by rw [List.getElem?_map, hi]; simp [hy]
          have q2 : (es.toList.map (·.key))[j]? = some (mk a) := by rw [List.getElem?_map, f2]; simp [f3]
          exact hij ((List.getElem?_inj (by simpa using hil) hnd).1 (q1.trans q2.symm))
      have hmem : ∀ y : MapEntry, y ∈ (es.modify j fun e' => { e' with key := mk a, val := v }).toList ↔ y = { e0 with key := mk a, val := v } ∨ ∃ i, i ≠ j ∧ es.toList[i]? = some y := by
        intro y
        rw [Array.toList_modify, List.mem_iff_getElem?]
        constructor
        · rintro ⟨i, hi⟩
          rw [List.getElem?_modify] at hi
          by_cases hij : j = i
          · subst hij
            simp only [if_true, f2, Functor.map, Option.map_some, Option.some.injEq] at hi
            exact Or.inl hi.symm
          · simp only [if_neg hij] at hi
            have hi : es.toList[i]? = some y := by simpa using hi
            exact Or.inr ⟨i, fun e => hij e.symm, hi⟩
        · rintro (rfl | ⟨i, hij, hi⟩)
          · exact ⟨j, by rw [List.getElem?_modify, f2]; simp⟩
          · exact ⟨i, by rw [List.getElem?_modify]; simp only [if_neg (Ne.symm hij)]; simpa using hi⟩
      intro a' v'
      by_cases ha : a' = a
      · subst ha
        simp only [if_true, Option.some.injEq]
        constructor
        · rintro rfl; exact ⟨_, (hmem _).2 (Or.inl rfl), rfl, rfl⟩
        · rintro ⟨x, hx, hxk, hxv⟩
          rcases (hmem x).1 hx with rfl | ⟨i, hij, hi⟩
          · exact hxv
          · exact absurd (huniq i x hi hxk) hij
      · simp only [if_neg ha]
        rw [h4]
        constructor
        · rintro ⟨x, hx, hxk, hxv⟩
          obtain ⟨i, hi⟩ := List.mem_iff_getElem?.1 hx
          refine ⟨x, (hmem x).2 (Or.inr ⟨i, fun hij => ?_, hi⟩), hxk, hxv⟩
          subst hij
          rw [f2] at hi
          cases hi
          exact ha (hinj _ _ (hxk.symm.trans f3))
        · rintro ⟨x, hx, hxk, hxv⟩
          rcases (hmem x).1 hx with rfl | ⟨i, hij, hi⟩
          · exact absurd (hinj _ _ hxk).symm ha
          · exact ⟨x, List.mem_of_getElem? hi, hxk, hxv⟩
end
end Go.Vc
namespace Go.Vc
open Go.MapKept
structure KeyR (P : Program) (kt : TypeId) {κ : Type} (mk : κ → Value) : Prop where
  check : ∀ (e : Bool) (h : Heap) (a : κ), rd P (Instr.checkKey e 10000 kt (mk a)) h = some ()
  find : ∀ (h : Heap) (a : κ) (es : List MapEntry), (∀ x ∈ es, ∃ a', x.key = mk a') →
    (rd P (Instr.findKey kt (mk a) es) h = some none ∧ ∀ x ∈ es, x.key ≠ mk a) ∨ ∃ j e0, rd P (Instr.findKey kt (mk a) es) h = some (some (j, e0.val)) ∧ es[j]? = some e0 ∧ e0.key = mk a
  stays : ∀ a, Instr.sameBits 10000 (mk a) (mk a) = true
  inj : ∀ a a', mk a = mk a' → a = a'
def mpK (P : Program) (t kt : TypeId) (z : Value) : Prop := ∃ e i, P.underlying t = some (.map kt e) ∧ P.info? e = some i ∧ i.zero = some z
def MapAt {κ : Type} (mk : κ → Value) (h : Heap) (b : Nat) (a : κ) (s : Int) : Prop := ∃ (es : Array MapEntry) (clock i : Nat) (e0 : MapEntry), h[b]? = some (.map es clock) ∧ es.toList[i]? = some e0 ∧ e0.key = mk a ∧ (e0.born : Int) = s
section
variable {P : Program} {τ ρ : Env} {h : Heap} {K : Value → Heap → Prop} {ty : TypeId} {κ : Type} {mk : κ → Value} {F : κ → Option Value} {b : Nat}
theorem lk_mapR {t kt : TypeId} {z : Value} (hT : mpK P t kt z) (hk : KeyR P kt mk) (H : MapO mk h b F) (a : κ) (ok : Bool) :
    lkE P t (.map (some b)) (mk a) ok h = some (if ok then .tuple #[(F a).getD z, .bool (F a).isSome] else (F a).getD z) := by
  obtain ⟨e, i, t1, t3, t4⟩ := hT
  obtain ⟨es, c, h1, h2, h3, h4⟩ := H
  have hz : rd P (zeroValue e) h = some z := rd_zeroValue t3 t4
  unfold lkE Instr.lookup
  rw [rd_bind', rd_underlying t1, Option.bind_some]
  simp only [rd_bind', rd_getMap h1, rd_pure, Option.bind_some]
  rw [hk.check, Option.bind_some]
  rcases hk.find h a es.toList h3 with ⟨f1, f2⟩ | ⟨j, e0, f1, f2, f3⟩
  · rw [f1]
    have hn : F a = none := by
      cases hF : F a with
      | none => rfl
      | some v =>
        obtain ⟨x, hx, hxk, _⟩ := (h4 a v).1 hF
        exact absurd hxk (f2 x hx)
    simp only [Option.bind_some, rd_bind', hz, rd_pure, hn]
    cases ok <;> rfl
  · rw [f1]
    have hn : F a = some e0.val := (h4 a _).2 ⟨e0, List.mem_of_getElem? f2, f3, rfl⟩
    simp only [Option.bind_some, rd_bind', rd_pure, hn]
    cases ok <;> rfl
theorem modify_id {es : Array MapEntry} {j : Nat} {e0 : MapEntry} {f : MapEntry → MapEntry} (hj : es.toList[j]? = some e0) (hf : f e0 = e0) : es.modify j f = es := by
  apply Array.ext_getElem?
  intro i
  rw [Array.getElem?_modify]
  split
  · rename_i hij
    subst hij
    have : es[j]? = some e0 := by simpa using hj
    rw [this]; simp [hf]
  · rfl
theorem eff_mapentry [DecidableEq κ] {t kt : TypeId} {z : Value} (hT : mpK P t kt z) (hk : KeyR P kt mk) {m x : Operand} {a : κ}
    (hm : evo τ ρ m = some (.map (some b))) (hx : evo τ ρ x = some (mk a)) (H : MapO mk h b F)
    (hK : ∀ h' s, MapO mk h' b (fun a' => if a' = a then some ((F a).getD z) else F a') → MapAt mk h' b a s → Fr (fun k => k = b) h h' → h'.size = h.size → K (.tuple #[(F a).getD z, .int .i64 s]) h') :
    eff P (.mapEntry t m x) ty τ ρ h K := by
  obtain ⟨e, i, t1, t3, t4⟩ := hT
  obtain ⟨es, c, h1, h2, h3, h4⟩ := H
  refine ⟨by intro u hu; simp [Op.operands] at hu; rcases hu with rfl | rfl <;> simp [hm, hx], ?_⟩
  have e1 : evd τ ρ m = .map (some b) := by simp [evd, hm]
  have e2 : evd τ ρ x = mk a := by simp [evd, hx]
  have hlt : b < h.size := (Array.getElem?_eq_some_iff.1 h1).1
  simp only [execOp, Sop.oper, e1, e2]
  refine sr_v (sr_of_run fun w hw => ?_)
  subst hw
  have fin : ∀ es' c', Fr (fun k => k = b) w.heap (w.heap.setIfInBounds b (.map es' c')) := fun es' c' => ⟨by simp, fun k' hk' hne => by simp [Ne.symm hne]⟩
  have getb : ∀ es' c', (w.heap.setIfInBounds b (.map es' c'))[b]? = some (.map es' c') := fun es' c' => by simp [hlt]
  have hchk : (Instr.checkKey false 10000 kt (mk a)).run P w = .ok () w := rd_run _ _ _ (hk.check _ _ _)
  have hz : (zeroValue e).run P w = .ok z w := rd_run _ _ _ (rd_zeroValue t3 t4)
  rcases hk.find w.heap a es.toList h3 with ⟨f1, f2⟩ | ⟨j, e0, f1, f2, f3⟩
  · have hF : F a = none := by
      cases hF : F a with
      | none => rfl
      | some v =>
        obtain ⟨x, hx, hxk, _⟩ := (h4 a v).1 hF
        exact absurd hxk (f2 x hx)
    have hfind := rd_run _ w _ f1
    have e9 : (F a).getD z = z := by rw [hF]; rfl
    refine ⟨.tuple #[z, goInt c], { w with heap := w.heap.setIfInBounds b (.map (es.push ⟨mk a, z, c⟩) (c + 1)) }, ?_, ⟨rfl, rfl, rfl⟩, ?_⟩
    · simp [Instr.mapEntry, run_underlying t1, MapKept.run_getObj_map h1, hchk, hfind, hz, MapKept.run_setObj_map _ h1, Result.andThen]
    have := hK (w.heap.setIfInBounds b (.map (es.push ⟨mk a, z, c⟩) (c + 1))) (c : Int) ⟨_, _, getb _ _, stamped_push h2 f2, ?_, ?_⟩ ⟨_, _, es.size, ⟨mk a, z, c⟩, getb _ _, by simp, rfl, rfl⟩ (fin _ _) (by simp)
    · rw [e9] at this; exact this
    · intro x hx
      simp only [Array.toList_push, List.mem_append, List.mem_singleton] at hx
      rcases hx with hx | rfl
      · exact h3 x hx
      · exact ⟨a, rfl⟩
    · intro a' v'
      simp only [Array.toList_push, List.mem_append, List.mem_singleton]
      by_cases ha : a' = a
      · subst ha
        simp only [if_true, Option.some.injEq, e9]
        constructor
        · rintro rfl; exact ⟨_, Or.inr rfl, rfl, rfl⟩
        · rintro ⟨x, hx | rfl, hxk, hxv⟩
          · exact absurd hxk (f2 x hx)
          · exact hxv
      · simp only [if_neg ha]
        rw [h4]
        constructor
        · rintro ⟨x, hx, hxk, hxv⟩; exact ⟨x, Or.inl hx, hxk, hxv⟩
        · rintro ⟨x, hx | rfl, hxk, hxv⟩
          · exact ⟨x, hx, hxk, hxv⟩
          · exact absurd (hk.inj _ _ hxk).symm ha
  · have hF : F a = some e0.val := (h4 a _).2 ⟨e0, List.mem_of_getElem? f2, f3, rfl⟩
    have hfind := rd_run _ w _ f1
    have hj : es[j]? = some e0 := by simpa using f2
    have hstay : ∀ w' : World, (Instr.keyThatStays (mk a) (mk a)).run P w' = .ok (mk a) w' := fun w' => by unfold Instr.keyThatStays; rw [if_pos (hk.stays a)]; rfl
    have hid : (es.modify j fun e' => { e' with key := mk a }) = es := modify_id f2 (by rw [← f3])
    have e9 : (F a).getD z = e0.val := by rw [hF]; rfl
    refine ⟨.tuple #[e0.val, goInt e0.born], { w with heap := w.heap.setIfInBounds b (.map es c) }, ?_, ⟨rfl, rfl, rfl⟩, ?_⟩
    · simp [Instr.mapEntry, run_underlying t1, MapKept.run_getObj_map h1, hchk, hfind, hj, f3, hstay, hid, MapKept.run_setObj_map _ h1, Result.andThen]
    have := hK (w.heap.setIfInBounds b (.map es c)) (e0.born : Int) ⟨_, _, getb _ _, h2, h3, ?_⟩ ⟨_, _, j, e0, getb _ _, f2, f3, rfl⟩ (fin _ _) (by simp)
    · rw [e9] at this; exact this
    · intro a' v'
      by_cases ha : a' = a
      · subst ha
        dsimp only
        rw [if_pos rfl, e9, ← hF]
        exact h4 _ _
      · dsimp only
        rw [if_neg ha]
        exact h4 _ _
theorem eff_insert {t : TypeId} {m x y : Operand} (H : eff P (.mapUpdate t m x y) ty τ ρ h K) : eff P (.insert t m x y) ty τ ρ h K := H
theorem eff_entrystore [DecidableEq κ] {t : TypeId} (hinj : ∀ a a', mk a = mk a' → a = a') {m s x : Operand} {a : κ} {n : Int} {v : Value}
    (hm : evo τ ρ m = some (.map (some b))) (hs : evo τ ρ s = some (.int .i64 n)) (hx : evo τ ρ x = some v) (H : MapO mk h b F) (A : MapAt mk h b a n)
    (hK : ∀ h', MapO mk h' b (fun a' => if a' = a then some v else F a') → Fr (fun k => k = b) h h' → h'.size = h.size → K undef h') :
    eff P (.entryStore t m s x) ty τ ρ h K := by
  obtain ⟨es, c, h1, h2, h3, h4⟩ := H
  obtain ⟨es', c', j, e0, a1, a2, a3, a4⟩ := A
  rw [h1] at a1
  cases a1
  refine ⟨by intro u hu; simp [Op.operands] at hu; rcases hu with rfl | rfl | rfl <;> simp [hm, hs, hx], ?_⟩
  have e1 : evd τ ρ m = .map (some b) := by simp [evd, hm]
  have e2 : evd τ ρ s = .int .i64 n := by simp [evd, hs]
  have e3 : evd τ ρ x = v := by simp [evd, hx]
  have hlt : b < h.size := (Array.getElem?_eq_some_iff.1 h1).1
  simp only [execOp, Sop.oper, e1, e2, e3]
  refine sr_u (sr_of_run fun w hw => ?_)
  subst hw
  have hj : es[j]? = some e0 := by simpa using a2
  have hjl : j < es.size := (Array.getElem?_eq_some_iff.1 hj).1
  have hidx : es.findIdx? (fun e => ((e.born : Int) == n)) = some j := by
    rw [Array.findIdx?_eq_some_iff_getElem]
    refine ⟨hjl, ?_, ?_⟩
    · have : es[j] = e0 := by simpa [hjl] using hj
      rw [this]; simp [a4]
    · intro i hij
      have hil : i < es.size := by omega
      have hnd := h2.2.1
      rw [beq_iff_eq]
      intro hb
      have hej : es[j] = e0 := by simpa [hjl] using hj
      have : es[i].born = es[j].born := by rw [hej]; omega
      have h5 := (List.nodup_iff_pairwise_ne.1 hnd)
      rw [List.pairwise_iff_getElem] at h5
      have h6 := h5 i j (by simpa using hil) (by simpa using hjl) hij
      simp only [List.getElem_map, Array.getElem_toList] at h6
      exact h6 this
  have getb : ∀ es' c', (w.heap.setIfInBounds b (.map es' c'))[b]? = some (.map es' c') := fun es' c' => by simp [hlt]
  refine ⟨(), { w with heap := w.heap.setIfInBounds b (.map (es.modify j fun e' => { e' with val := v }) c) }, ?_, ⟨rfl, rfl, rfl⟩, hK _ ⟨_, _, getb _ _, stamped_modify h2 _ _ (fun _ _ => rfl) (fun _ _ _ => rfl), ?_, ?_⟩ ⟨by simp, fun k' hk' hne => by simp [Ne.symm hne]⟩ (by simp)⟩
  · simp [Instr.entryStore, MapKept.run_getObj_map h1, asInt, asIntOf, hidx, MapKept.run_setObj_map _ h1, Result.andThen]
  · intro x hx
    obtain ⟨i, hi⟩ := List.mem_iff_getElem?.1 hx
    rw [Array.getElem?_toList, Array.getElem?_modify] at hi
    split at hi
    · rename_i hij
      subst hij
      rw [hj] at hi
      simp only [Option.map_some, Option.some.injEq] at hi
      subst hi
      exact h3 e0 (List.mem_of_getElem? a2)
    · exact h3 x (List.mem_of_getElem? (i := i) (by simpa using hi))
  · have hkeys : es.toList.Pairwise fun x y => x.key ≠ y.key := by
      have := h2.2.2
      rw [List.nodup_iff_pairwise_ne, List.pairwise_map] at this
      exact this
    have huniq : ∀ (i : Nat) (x : MapEntry), es.toList[i]? = some x → x.key = mk a → i = j := by
      intro i x hi hxk
      rcases Nat.lt_trichotomy i j with hl | hl | hl
      · have hil : i < es.toList.length := (List.getElem?_eq_some_iff.1 hi).1
        have := List.pairwise_iff_getElem.1 hkeys i j hil (by simpa using hjl) hl
        rw [(List.getElem?_eq_some_iff.1 hi).2, (List.getElem?_eq_some_iff.1 a2).2, hxk, a3] at this
        exact absurd rfl this
      · exact hl
      · have hil : i < es.toList.length := (List.getElem?_eq_some_iff.1 hi).1
        have := List.pairwise_iff_getElem.1 hkeys j i (by simpa using hjl) hil hl
        rw [(List.getElem?_eq_some_iff.1 hi).2, (List.getElem?_eq_some_iff.1 a2).2, hxk, a3] at this
        exact absurd rfl this
    have hmem : ∀ x, x ∈ (es.modify j fun e' => { e' with val := v }).toList ↔ x = { e0 with val := v } ∨ ∃ i, i ≠ j ∧ es.toList[i]? = some x := by
      intro x
      rw [List.mem_iff_getElem?]
      constructor
      · rintro ⟨i, hi⟩
        rw [Array.getElem?_toList, Array.getElem?_modify] at hi
        split at hi
        · rename_i hij
          subst hij
          rw [hj] at hi
          simp only [Option.map_some, Option.some.injEq] at hi
          exact Or.inl hi.symm
        · rename_i hij
          exact Or.inr ⟨i, fun e => hij e.symm, by simpa using hi⟩
      · rintro (rfl | ⟨i, hij, hi⟩)
        · exact ⟨j, by rw [Array.getElem?_toList, Array.getElem?_modify, if_pos rfl, hj]; rfl⟩
        · exact ⟨i, by rw [Array.getElem?_toList, Array.getElem?_modify, if_neg (Ne.symm hij)]; simpa using hi⟩
    intro a' v'
    by_cases ha : a' = a
    · subst ha
      simp only [if_true, Option.some.injEq]
      constructor
      · rintro rfl; exact ⟨_, (hmem _).2 (Or.inl rfl), a3, rfl⟩
      · rintro ⟨x, hx, hxk, hxv⟩
        rcases (hmem x).1 hx with rfl | ⟨i, hij, hi⟩
        · exact hxv
        · exact absurd (huniq i x hi hxk) hij
    · simp only [if_neg ha]
      rw [h4]
      constructor
      · rintro ⟨x, hx, hxk, hxv⟩
        obtain ⟨i, hi⟩ := List.mem_iff_getElem?.1 hx
        refine ⟨x, (hmem x).2 (Or.inr ⟨i, fun hij => ?_, hi⟩), hxk, hxv⟩
        subst hij
        rw [a2] at hi
        cases hi
        exact ha (hinj _ _ (hxk.symm.trans a3))
      · rintro ⟨x, hx, hxk, hxv⟩
        rcases (hmem x).1 hx with rfl | ⟨i, hij, hi⟩
        · exact absurd (hinj _ _ (a3.symm.trans hxk)).symm ha
        · exact ⟨x, List.mem_of_getElem? hi, hxk, hxv⟩
end
end Go.Vc

/- From calls on heaps to the given statements: a law that returns true and turns nothing that was there keeps its row's word. -/
import Derived.Test.YtidkokdkldfglaaRows
import Derived.Test.YtidkokdkldfglaaVcS
import Derived.WalkKit
import Derived.ProofKit
import Derived.OpenShut
import Derived.ShutString
namespace Go.Vc
open Go.ChangeShapes Go.WideShapes Go.ChangeAt Go.RowKit
open Go.ChangeMaps (open_string shut_string)

theorem below_of {w w' : World} (s : Same w w') (x : Ext w.heap w'.heap) : Below w.heap.size w w' :=
  ⟨s.os, s.tape, s.output, x.size, fun k hk => x.same k hk fun h => h⟩

theorem law_calls {P : Program} {f : FuncId} {args : Array Value} {w : World} (H : HCalls P f args w.heap fun v h' => Ext w.heap h' ∧ v = .bool true) :
    Calls P f args w fun e w' => e = .returned (.bool true) ∧ Below w.heap.size w w' :=
  (H w rfl).mono fun e w' ⟨v, he, s, x, hv⟩ => ⟨by rw [he, hv], below_of s x⟩

theorem trodAll_stays {H : Type} {enc : TypeId × Value → H} {P : Program} {W W' : World} (hl : laidOutB P = true) (hB : Below W.heap.size W W') :
    ∀ (ts : List TypeId) (vs : List Value) (ds : List (DataW H)) (ps : List MemPlace), ts.all (fun t => P.readableRec t && decide (t < P.types.size)) = true →
      DataW.TrodAll enc P W 0 (fun _ => true) true ts vs ds ps → (∀ x ∈ ps, x.block < W.heap.size) →
      DataW.TrodAll enc P W' 0 (fun b => decide (b < W.heap.size)) true ts vs ds ps
  | [], _, _, _, _, h, _ => by
    obtain ⟨rfl, rfl, rfl⟩ := trodAll_nil h
    exact trodAll_mk0
  | t :: ts, _, _, _, ht, h, hp => by
    obtain ⟨v, vs1, d, ds1, a, b, rfl, rfl, rfl, h1, h2⟩ := trodAll_cons h
    simp only [List.all_cons, Bool.and_eq_true, decide_eq_true_eq] at ht
    exact trodAll_cons_mk (Below.trod hl ht.1.1 ht.1.2 h1 hB fun x hx => hp x (by simp [hx]))
      (trodAll_stays hl hB ts vs1 ds1 b (by simpa using ht.2) h2 fun x hx => hp x (by simp [hx]))

theorem post_of_law {H : Type} {enc : TypeId × Value → H} {P : Program} {f : Func} {s : ChangeSpec} {apart fresh handsOn : Bool} {W W' : World} {args : Array Value}
    {ds gs : List (DataW H)} {before : List MemPlace} {tb : TypeId}
    (hl : laidOutB P = true) (hr : f.params.toList.all (fun t => P.readableRec t && decide (t < P.types.size)) = true)
    (hres : f.resultTypes = #[tb]) (hb : P.underlying tb = some .bool) (hv : s.vars = [])
    (hfn : s.fn H (ds ++ gs) = { results := [.lit (.bool true)], args := ds })
    (hW : DataW.Whole enc P f.params.toList s.vars apart W args.toList ds gs before) (hB : Below W.heap.size W W') :
    s.post enc P f apart fresh handsOn false W args (.bool true) W' := by
  have hlt := hW.lt
  have hW' := hW
  obtain ⟨p, q, hA, hV, rfl, hfz, hnd⟩ := hW
  rw [hv] at hV
  obtain ⟨rfl, rfl⟩ := trodVars_none hV
  refine ⟨ds, [], p ++ [], [], p, [], hW', ?_, ?_, ?_, hB.frame _, fun h => by cases h⟩
  · rw [hfn, hres]
    exact trodAll_cons_mk (shut_bool hb _) trodAll_mk0
  · rw [hfn]
    exact trodAll_stays hl hB _ _ _ _ hr hA fun x hx => hlt x (by simp [hx])
  · rw [hfn, hv]; exact rfl
theorem text_le {a : ByteArray} (h : a.size ≤ maxLen) : a.data.toList.length ≤ 9223372036854775807 := by
  have h1 : a.data.toList.length = a.size := Array.length_toList
  have h2 : maxLen = 9223372036854775807 := by decide +kernel
  rw [h1]; rw [h2] at h; exact h
/-- A slice of unsigned integers, opened: its elements. -/
theorem ints_open {H : Type} {enc : TypeId × Value → H} {P : Program} {W : World} {t e : TypeId} {k : IntKind} {v : Value} {d : DataW H} {ps : List MemPlace} {sp : Nat → Bool} {hd : Bool}
    (ht : P.underlying t = some (.slice e)) (he : P.underlying e = some (.int k)) (hc : P.cellsOf e = 1) (hk : k.signed = false := by rfl)
    (h : DataW.Trod enc P W 0 sp hd t v d ps) (hv : ∃ a l c, v = .slice a l c) :
    ∃ us : List Nat, (∀ u ∈ us, u < 2 ^ k.bits) ∧ Sl W.heap v (us.map fun u : Nat => .int k (u : Int)) := by
  obtain ⟨a, l, c, rfl⟩ := hv
  obtain ⟨fuel, hf⟩ := h
  rcases Go.ChangeShapes.open_ints ht he hc hf with ⟨hcs, _⟩ | ⟨x, l', c', zs, hcs, _, hl, hm, hz, _, hcell, hwz⟩
  · simp [Value.cells] at hcs
    obtain ⟨rfl, rfl, rfl⟩ := hcs
    exact ⟨[], by simp, _, _, rfl, .inl rfl⟩
  · simp [Value.cells] at hcs
    obtain ⟨rfl, rfl, rfl⟩ := hcs
    have hlz : l ≤ zs.length := by rw [hz]; split <;> omega
    have fit : ∀ n ∈ zs, 0 ≤ n ∧ n.toNat < 2 ^ k.bits := by
      intro n hn
      have := hwz n hn
      simp only [Lit.wf, Bool.and_eq_true, decide_eq_true_eq, IntKind.min, IntKind.max, hk, Bool.false_eq_true, if_false] at this
      cases k <;> simp only [IntKind.signed, Bool.true_eq_false, reduceCtorEq] at hk <;> simp only [IntKind.bits] at this ⊢ <;> omega
    have hll : (zs.take l).length = l := by simp; omega
    refine ⟨(zs.take l).map Int.toNat, ?_, some x, c, by simp; omega, ?_⟩
    · intro u hu
      obtain ⟨n, hn, rfl⟩ := List.mem_map.1 hu
      exact (fit n (List.mem_of_mem_take hn)).2
    · rcases Nat.eq_zero_or_pos l with rfl | hpos
      · exact .inl (by simp)
      · right
        have h0 := hcell 0 (by omega)
        obtain ⟨b, o, s⟩ := x
        have hs : s = none := by
          cases s with
          | none => rfl
          | some s =>
            simp only [Addr.add, if_true, World.cell?, Option.isSome_some] at h0
            split at h0 <;> cases h0
        subst hs
        refine ⟨b, o, rfl, fun j v hv => ?_⟩
        have hj : j < l := by
          rcases Nat.lt_or_ge j l with h' | h'
          · exact h'
          · rw [List.getElem?_eq_none (by simp; omega)] at hv; cases hv
        have hjz : j < zs.length := by omega
        have h1 := hcell j hjz
        have hadd : Addr.add ⟨b, o, none⟩ j = ⟨b, o + j, none⟩ := by
          unfold Addr.add; split
          · next h' => subst h'; rfl
          · rfl
        rw [hadd] at h1
        have hz0 := (fit zs[j] (List.getElem_mem hjz)).1
        have hv' : v = .int k zs[j] := by
          simp only [List.getElem?_map, List.getElem?_take, if_pos hj, List.getElem?_eq_getElem hjz, Option.map_some, Option.some.injEq] at hv
          rw [← hv, Int.toNat_of_nonneg hz0]
        rw [hv']
        have h2 : zs.getD j 0 = zs[j] := by simp [hjz]
        rw [h2] at h1
        exact h1
end Go.Vc
namespace Go.Proofs.Ytidkokdkldfglaa
theorem own : ownKnob Try.prog.godebug = none := by kernel_rfl
theorem laidOut : laidOutB Try.prog = true := by kernel_rfl
end Go.Proofs.Ytidkokdkldfglaa

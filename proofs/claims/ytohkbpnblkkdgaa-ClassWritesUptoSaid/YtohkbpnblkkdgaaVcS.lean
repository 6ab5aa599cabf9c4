/- 'copy' of a text into one's own bytes. No condition. -/
import Derived.Test.YtohkbpnblkkdgaaVcR
import Derived.WalkKit
import Derived.Deep.AppendSrc
namespace Go.Vc
set_option linter.unusedSimpArgs false
set_option linter.unusedVariables false
section
variable {P : Program} {τ ρ : Env} {h : Heap} {K : Value → Heap → Prop} {ty : TypeId}
theorem eff_copy_str {t tx e : TypeId} {bytes : Nat} (hT : slT P t e 1 bytes = true) {x y : Operand} {base gb n cap at' : Nat} {l bs : List UInt8}
    (hx : evo τ ρ x = some (.slice (slA (some ⟨gb, 0, none⟩) cap at' 1) (n - at') (cap - at'))) (hy : evo τ ρ y = some (str l)) (hown : Own h base e 1 (.slice (some ⟨gb, 0, none⟩) n cap) n (bytesV bs)) (hl : at' + l.length ≤ n) (hp : 0 < l.length)
    (H : ∀ h', Fr (fun k => k = gb) h h' → Own h' base e 1 (.slice (some ⟨gb, 0, none⟩) n cap) n (bytesV (bs.take at' ++ l ++ bs.drop (at' + l.length))) → K (.int .i64 (l.length : Int)) h') :
    eff P (.call { callee := .builtin .copy, args := #[x, y], argTypes := #[t, tx] }) ty τ ρ h K := by
  obtain ⟨i, z, t1, t2, t3, t4, t5, t6, t7⟩ := slT_spec hT
  obtain ⟨hlen, h0⟩ := hown
  rcases h0 with ⟨hc, _⟩ | ⟨g', cap', cur, fz, hv, hb, hg, hfz, hnc, hcm, hcs, htk⟩
  · cases hc
  cases hv
  have hsl : slA (some ⟨gb, 0, none⟩) cap at' 1 = some ⟨gb, at', none⟩ := by
    unfold slA
    rw [if_neg (by omega)]
    simp [Addr.add]
    intro h; exact h.symm
  rw [hsl] at hx
  refine eff_2 (x := x) (y := y) (by rfl) hx hy fun f hf1 hf2 => ?_
  intro w hw
  subst hw
  have hst := run_storeCells_cells (P := P) gb at' (bytesV l) 0 w (fun j hj => by simp [bytesV] at hj; simp [World.cell?, hg]; omega)
    (fun j hj => by
      simp [bytesV] at hj
      have := hfz (at' + 0 + j) (by omega)
      simp only [World.frozen?, hg, Bool.and_eq_false_iff, decide_eq_false_iff_not]
      omega) (fun u hu => by simp [bytesV] at hu; obtain ⟨c, _, rfl⟩ := hu; rfl)
  simp only [Nat.add_zero] at hst
  have hbl : (bytesV l).length = l.length := by simp [bytesV]
  rw [setCells_row gb e fz (bytesV l) at' cur w hg (by rw [hbl]; omega), hbl] at hst
  have hbc : (byteCells ⟨l.toArray⟩) = bytesV l := by simp [byteCells, bytesV]
  have hfc : (Builtin.firstCells 1 l.length (str l)).run P w = .ok (bytesV l).toArray w := by
    have := firstCells_string (P := P) ⟨l.toArray⟩ w
    rw [hbc] at this
    exact this
  have hsz : ∀ s : ByteArray, (ByteArray.mk l.toArray).size = l.length := fun _ => by simp [ByteArray.size]
  have hmin : Nat.min l.length (n - at') = l.length := Nat.min_eq_left (by omega)
  have hlo : ∀ w', (Builtin.lenOf (str l)).run P w' = .ok l.length w' := fun w' => by
    show (pure (ByteArray.mk l.toArray).size : Sem Nat).run P w' = _
    rw [hsz ⟨l.toArray⟩]; rfl
  refine ⟨.value (.int .i64 (l.length : Int)), w.setRow gb (cur.toList.take at' ++ bytesV l ++ cur.toList.drop (at' + l.length)).toArray, ?_, ⟨rfl, rfl, rfl⟩, H _ ⟨by simp, fun k hk hn => setRow_other w gb k _ hn⟩ ⟨?_, .inr ⟨gb, cap, _, fz, rfl, hb, setRow_heap w gb cur _ e _ hg, hfz, hnc, hcm, ?_, ?_⟩⟩⟩
  · have hcp : (Builtin.copy_ #[t, tx] ty #[.slice (some ⟨gb, at', none⟩) (n - at') (cap - at'), str l]).run P w = .ok (.int .i64 (l.length : Int)) (w.setRow gb (cur.toList.take at' ++ bytesV l ++ cur.toList.drop (at' + l.length)).toArray) := by
      simp [Builtin.copy_, run_underlying t1, sizeOf, typeInfo, t2, hlo, hmin, t4, hfc, hst, goInt]
    simp only [execOp, Sop.oper, resolve, invoke, builtin, Sem.run_bind, Sem.run_pure, Result.andThen, List.map_toArray, List.map_cons, List.map_nil, hf1, hf2, hcp]
  · rw [Nat.mul_one] at hlen ⊢
    have : bs.length = n := by simpa [bytesV] using hlen
    simp [bytesV]; omega
  · simp only [List.size_toArray, List.length_append, List.length_take, List.length_drop, Array.length_toList, hbl]; omega
  · have hbn : bs.length = n := by simpa [bytesV] using hlen
    simp only [Nat.mul_one] at htk ⊢
    have h1 : (cur.toList.take at').length = at' := by rw [List.length_take, Array.length_toList]; omega
    rw [List.take_append, List.take_append, List.length_append, h1, hbl, List.take_of_length_le (l := cur.toList.take at') (by omega), List.take_of_length_le (l := bytesV l) (by omega)]
    have e1 : bytesV (bs.take at' ++ l ++ bs.drop (at' + l.length)) = (bytesV bs).take at' ++ bytesV l ++ (bytesV bs).drop (at' + l.length) := by simp [bytesV]
    rw [e1, ← htk, List.take_take, Nat.min_eq_left (by omega : at' ≤ n), List.drop_take]
end
end Go.Vc

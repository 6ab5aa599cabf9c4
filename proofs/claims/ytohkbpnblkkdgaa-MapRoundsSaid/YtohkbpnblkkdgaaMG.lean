/- Frames just read: each with lists of its own. -/
import Derived.Test.YtohkbpnblkkdgaaMF
namespace Go.Proofs.Ytohkbpnblkkdgaa
open Go.Vc
set_option maxRecDepth 100000
set_option linter.unusedSimpArgs false
set_option linter.unusedVariables false

def fr0 : Frm := ⟨0, [], []⟩
def FrP (h : Heap) (base : Nat) (f : Frm) (r : List Value) : Prop := ∃ vL vS, r = [.int .i64 f.at', vL, vS] ∧ FrmO h base f vL vS
def rowB (r : List Value) (b : Nat) : Prop := (r.getD 1 undef).ownBlock = some b ∨ (r.getD 2 undef).ownBlock = some b
theorem blk_ty {h : Heap} {b : Nat} {cs cs' : Array Value} {t t' : TypeId} {fz fz' : Nat × Nat} (h1 : h[b]? = some (.cells cs t fz)) (h2 : h[b]? = some (.cells cs' t' fz')) : t = t' := by
  rw [h1] at h2
  simp only [Option.some.injEq, Obj.cells.injEq] at h2
  exact h2.2.1
theorem Own.cells {h : Heap} {base : Nat} {e : TypeId} {size n k : Nat} {v : Value} {xs : List Value} (H : Own h base e size v n xs) (hk : v.ownBlock = some k) : ∃ cs fz, h[k]? = some (.cells cs e fz) := by
  rcases H.2 with ⟨rfl, _⟩ | ⟨g, cap, cur, fz, rfl, _, hg, _⟩
  · simp [Value.ownBlock] at hk
  · simp [Value.ownBlock] at hk
    subst hk
    exact ⟨_, _, hg⟩
theorem getD_mem {α : Type} {l : List α} {i : Nat} {d : α} (h : i < l.length) : l.getD i d ∈ l := by simp [h]
theorem FrP.fr {S : Nat → Prop} {h h' : Heap} {base : Nat} {x : Frm} {r : List Value} (H : FrP h base x r) (f : Fr S h h') (hS : ∀ b, rowB r b → ¬ S b) : FrP h' base x r := by
  obtain ⟨vL, vS, rfl, O⟩ := H
  exact ⟨vL, vS, rfl, O.fr f hS⟩
theorem FrP.lt {h : Heap} {base : Nat} {x : Frm} {r : List Value} (H : FrP h base x r) {b : Nat} (hb : rowB r b) : base ≤ b ∧ b < h.size := by
  obtain ⟨vL, vS, rfl, O⟩ := H
  rcases hb with hb | hb
  · exact O.L.lt b hb
  · exact O.S.lt b hb
theorem FrP.vt {h : Heap} {base : Nat} {x : Frm} {r : List Value} (H : FrP h base x r) {b : Nat} (hb : rowB r b) {cs : Array Value} {t : TypeId} {fz : Nat × Nat} (hc : h[b]? = some (.cells cs t fz)) : t = 25 := by
  obtain ⟨vL, vS, rfl, O⟩ := H
  rcases hb with hb | hb
  · obtain ⟨_, _, q⟩ := Own.cells O.L hb; exact blk_ty hc q
  · obtain ⟨_, _, q⟩ := Own.cells O.S hb; exact blk_ty hc q
theorem FrP.frc {h : Heap} {base : Nat} {x : Frm} {r : List Value} (H : FrP h base x r) : FrC h x r := by
  obtain ⟨vL, vS, rfl, O⟩ := H
  exact ⟨vL, vS, rfl, O.L.slN, O.L.capOk, O.S.slN, O.S.capOk⟩
def FrsW (h : Heap) (base : Nat) (v : Value) (rows : List (List Value)) (fs : List Frm) : Prop := rows.length = fs.length ∧ Own h base 35 3 v fs.length rows.flatten ∧
  (∀ j, j < fs.length → FrP h base (fs.getD j fr0) (rows.getD j [])) ∧ ∀ j k, j < k → k < fs.length → ∀ b c, rowB (rows.getD j []) b → rowB (rows.getD k []) c → b < c
section
variable {h h' : Heap} {base : Nat} {v : Value} {rows : List (List Value)} {fs : List Frm}
theorem FrsW.nil : FrsW h base (.slice none 0 0) [] [] := ⟨rfl, Own.nil, fun j hj => by simp at hj, fun j k _ hk => by simp at hk⟩
theorem FrsW.fr {S : Nat → Prop} (H : FrsW h base v rows fs) (f : Fr S h h') (hS : ∀ b cs t fz, h[b]? = some (.cells cs t fz) → t = 25 ∨ t = 35 → ¬ S b) : FrsW h' base v rows fs := by
  obtain ⟨h1, h2, h3, h4⟩ := H
  refine ⟨h1, h2.fr f fun k hk => ?_, fun j hj => (h3 j hj).fr f fun b hb => ?_, h4⟩
  · obtain ⟨cs, fz, hc⟩ := Own.cells h2 hk
    exact hS k _ _ _ hc (.inr rfl)
  · have hlt := ((h3 j hj).lt hb).2
    obtain ⟨vL, vS, hr, O⟩ := h3 j hj
    rw [hr] at hb
    rcases hb with hb | hb
    · obtain ⟨_, _, q⟩ := Own.cells O.L hb; exact hS b _ _ _ q (.inl rfl)
    · obtain ⟨_, _, q⟩ := Own.cells O.S hb; exact hS b _ _ _ q (.inl rfl)
theorem FrsW.ext (H : FrsW h base v rows fs) (f : Ext h h') : FrsW h' base v rows fs := H.fr f fun _ _ _ _ _ _ => id
theorem FrsW.rd {g : Nat} {cs : Array Value} {t : TypeId} {fz : Nat × Nat} (H : FrsW h base v rows fs) (f : Fr (fun k => k = g) h h') (hg : h[g]? = some (.cells cs t fz)) (h1 : t ≠ 25) (h2 : t ≠ 35) : FrsW h' base v rows fs :=
  H.fr f fun b cs' t' fz' hb ht e => by
    subst e
    have := blk_ty hb hg
    rw [this] at ht
    rcases ht with ht | ht
    · exact h1 ht
    · exact h2 ht
theorem FrsW.frsC (H : FrsW h base v rows fs) : FrsC h v fs := ⟨rows, H.1, H.2.1.slN, fun j hj => by
  have := (H.2.2.1 j hj).frc
  have e : fs.getD j ⟨0, [], []⟩ = fs.getD j fr0 := rfl
  first | exact this | (rw [e]; exact this)⟩
/-- One more. -/
theorem FrsW.snoc {hc hp h10 : Heap} {v10 : Value} {f : Frm} {vL vS : Value} (W0 : FrsW hc base v rows fs) (Wp : FrsW hp base v rows fs) (O : FrmO hp base f vL vS)
    (hb : ∀ b, vL.ownBlock = some b ∨ vS.ownBlock = some b → hc.size ≤ b)
    (own10 : Own h10 base 35 3 v10 (fs.length + 1) (rows.flatten ++ [.int .i64 f.at', vL, vS])) (fr10 : Fr (fun k => v.ownBlock = some k) hp h10) :
    FrsW h10 base v10 (rows ++ [[.int .i64 f.at', vL, vS]]) (fs ++ [f]) := by
  obtain ⟨h1, h2, h3, h4⟩ := Wp
  obtain ⟨g1, g2, g3, g4⟩ := W0
  have hnew : FrP hp base f [.int .i64 f.at', vL, vS] := ⟨vL, vS, rfl, O⟩
  have mv : ∀ (y : Frm) (r : List Value) (hh : FrP hp base y r), FrP h10 base y r := fun y r hh => hh.fr fr10 fun b hb hs => by
    obtain ⟨cs, fz, hc⟩ := Own.cells h2 hs
    exact absurd (hh.vt hb hc) (by decide)
  refine ⟨by simp [h1], by rw [List.flatten_append, List.length_append]; simpa using own10, ?_, ?_⟩
  · intro j hj
    rcases Nat.lt_or_ge j fs.length with hji | hji
    · have e1 : (rows ++ [[.int .i64 f.at', vL, vS]]).getD j [] = rows.getD j [] := by simp [List.getElem?_append_left (by omega : j < rows.length)]
      have e2 : (fs ++ [f]).getD j fr0 = fs.getD j fr0 := by simp [List.getElem?_append_left hji]
      rw [e1, e2]; exact mv _ _ (h3 j hji)
    · have hje : j = fs.length := by simp at hj; omega
      subst hje
      have e1 : (rows ++ [[.int .i64 f.at', vL, vS]]).getD fs.length [] = [.int .i64 f.at', vL, vS] := by simp [← h1]
      have e2 : (fs ++ [f]).getD fs.length fr0 = f := by simp
      rw [e1, e2]; exact mv _ _ hnew
  · intro j k hjk hk b c hb1 hc1
    have hj' : j < fs.length := by simp at hk; omega
    have e1 : (rows ++ [[.int .i64 f.at', vL, vS]]).getD j [] = rows.getD j [] := by simp [List.getElem?_append_left (by omega : j < rows.length)]
    rw [e1] at hb1
    rcases Nat.lt_or_ge k fs.length with hki | hki
    · have e2 : (rows ++ [[.int .i64 f.at', vL, vS]]).getD k [] = rows.getD k [] := by simp [List.getElem?_append_left (by omega : k < rows.length)]
      rw [e2] at hc1
      exact h4 j k hjk hki b c hb1 hc1
    · have hke : k = fs.length := by simp at hk; omega
      subst hke
      have e2 : (rows ++ [[.int .i64 f.at', vL, vS]]).getD fs.length [] = [.int .i64 f.at', vL, vS] := by simp [← h1]
      rw [e2] at hc1
      have k1 := ((g3 j hj').lt hb1).2
      have k2 := hb c hc1
      omega
end
end Go.Proofs.Ytohkbpnblkkdgaa

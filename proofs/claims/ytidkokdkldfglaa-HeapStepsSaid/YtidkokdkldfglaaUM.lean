/- The young looked at, by the program. No condition. -/
import Derived.Test.YtidkokdkldfglaaUK
import Derived.Test.YtidkokdkldfglaaUL
namespace Go.Proofs.Ytidkokdkldfglaa
open Go.Vc
set_option maxRecDepth 100000
set_option linter.unusedSimpArgs false
set_option linter.unusedVariables false

theorem zero_rows (n : Nat) : (Builtin.zeroCells nul.row.toArray n).toList = rows (List.replicate n nul) := by
  have hl : (rows (List.replicate n nul)).length = n * 7 := by rw [rows_len, List.length_replicate]
  apply List.ext_getElem?
  intro i
  simp only [Builtin.zeroCells, Array.toList_map, List.getElem?_map, Array.toList_range]
  by_cases c : i < n * 7
  · have h1 : (List.range (n * nul.row.toArray.size))[i]? = some i := by
      rw [List.getElem?_range (by exact c)]
    rw [h1]
    have h2 := rows_get (l := List.replicate n nul) (i := i / 7) (j := i % 7) (c := nul) (by rw [List.getElem?_replicate, if_pos (by omega)]) (by omega)
    rw [show i / 7 * 7 + i % 7 = i by omega] at h2
    rw [h2]
    have h3 : i % 7 < 7 := by omega
    simp only [Option.map_some]
    have h4 : nul.row.toArray.size = 7 := rfl
    rw [h4]
    rw [getElem!_pos nul.row.toArray (i % 7) (by rw [h4]; exact h3)]
    simp
  · rw [List.getElem?_eq_none (by simp [CP.row]; omega), List.getElem?_eq_none (by omega)]; rfl
/-- A place is done: what is there is old. -/
def Dn (s : St) (loc : Loc) : Prop := ∀ y, getL s loc = some y → y < 2147483648
def DnC (s : St) (k : Nat) : Prop := ∀ c, s.old[k]? = some c → ∀ x ∈ rl s c, x < 2147483648
/-- What the young being looked at keeps, and where it is. -/
structure MW (base : Nat) (h0 : Heap) (p0 : Ph) (s0 : St) (b : Nat) (hc : Heap) (O oc : Nat) (s : St) : Prop where
  st : Stp base h0 hc p0 { p0 with O := O, oc := oc } s0 s
  m : MInv s0 s
  b : Bx hc { p0 with O := O, oc := oc } s b
theorem getL_rl {s : St} {c : CP} {g : Nat} (hg : c.rg = some g) (i : Nat) : getL s (.ref g i) = (rl s c)[i]? := by
  show ((s.RS g).bind fun l => l[i]?) = ((c.rg.bind s.RS).getD [])[i]?
  rw [hg, Option.bind_some]
  cases s.RS g <;> simp
/-- One place more. -/
theorem MW.turn {base : Nat} {h0 hc : Heap} {p0 : Ph} {s0 s : St} {b O oc : Nat} (I : Inv s0) (W : MW base h0 p0 s0 b hc O oc s) (hbs : base ≤ hc.size) {loc : Loc} {x : Nat} (hl : getL s loc = some x) (hv : x < 2147483648 ∨ valid s0 x) :
    HCalls Try.prog 45 #[ptr (locB p0 loc) (locO loc), ptr b 0] hc fun v h' => ∃ O' oc' s', MW base h0 p0 s0 b h' O' oc' s' ∧ Dn s' loc ∧ (∀ loc', Dn s loc' → Dn s' loc') ∧ (∀ (k : Nat) c, s.old[k]? = some c → s'.old[k]? = some c) ∧ base ≤ h'.size ∧
      (∀ (k : Nat), DnC s k → k < s.old.length → DnC s' k) := by
  have ob := W.m.bound I
  have eb : locB { p0 with O := O, oc := oc } loc = locB p0 loc := by cases loc <;> rfl
  have h32 : x < 4294967296 := by
    rcases hv with h | h
    · omega
    · exact I.valid_lt h
  have hyoung : 2147483648 ≤ x → ∃ c, s.young[x - 2147483648]? = some c ∧ c.to < 2147483648 := by
    intro h31
    have hv : valid s0 x := by
      rcases hv with h | h
      · omega
      · exact h
    have hx : x - 2147483648 < s.young.length := by
      rw [W.m.yl]
      rcases hv with h | h
      · omega
      · exact h.2
    have hg : s.young[x - 2147483648]? = some s.young[x - 2147483648] := by simp
    refine ⟨s.young[x - 2147483648], hg, ?_⟩
    by_cases e : s.young[x - 2147483648].to = 0
    · omega
    · have := (List.getElem?_eq_some_iff.1 (W.m.yf _ _ hg e).2.2).1
      omega
  have T := turn_any W.st.rep W.b (loc := loc) hbs hl h32 hyoung (by omega)
  rw [eb] at T
  refine T.mono ?_
  rintro v h' ⟨O', oc', S⟩
  obtain ⟨m1, ⟨y, m2, m2'⟩, m3, m4, m5⟩ := turn_law I W.m hl hv
  have dn : ∀ loc', Dn s loc' → Dn (turnP s loc) loc' := by
    intro loc' hd z hz
    by_cases e : loc' = loc
    · subst e; rw [m2] at hz; cases hz; exact m2'
    · rw [m3 loc' e] at hz; exact hd z hz
  refine ⟨O', oc', turnP s loc, ⟨W.st.trans S, m1, W.b.stp S ⟨rfl, rfl⟩⟩, ?_, dn, m5, Nat.le_trans hbs S.fr.size, ?_⟩
  · intro z hz; rw [m2] at hz; cases hz; exact m2'
  · intro k hd hk c hc z hz
    have hk2 : s.old[k]? = some s.old[k] := by simp
    have := m5 k _ hk2
    rw [hc] at this; cases this
    cases hg : s.old[k].rg with
    | none => simp [rl, hg] at hz
    | some g =>
      obtain ⟨i, hi⟩ := List.getElem?_of_mem hz
      rw [← getL_rl hg] at hi
      refine dn (.ref g i) ?_ z hi
      intro w hw
      rw [getL_rl hg] at hw
      exact hd _ hk2 w (List.mem_of_getElem? hw)
end Go.Proofs.Ytidkokdkldfglaa

/- Where a thing lies, what is in it: by the program. No condition. -/
import Derived.Test.YtidkokdkldfglaaUD
import Derived.Test.YtidkokdkldfglaaCh
import Derived.Test.YtidkokdkldfglaaT
namespace Go.Proofs.Ytidkokdkldfglaa
open Go.Vc
set_option maxRecDepth 100000
set_option linter.unusedSimpArgs false
set_option linter.unusedVariables false

theorem and31 {r : Nat} (h : r < 4294967296) : bitsV .and .u32 (r : Int) 2147483648 = if r < 2147483648 then 0 else 2147483648 := by
  have := bits_and (k := .u32) rfl r 2147483648 h (by decide)
  rw [show (((2147483648 : Nat)) : Int) = 2147483648 from rfl] at this
  rw [this]
  split
  · next h1 =>
    have : r &&& 2 ^ 31 = 0 := by
      apply Nat.eq_of_testBit_eq
      intro i
      rw [Nat.testBit_and, Nat.zero_testBit]
      by_cases e : i = 31
      · subst e; rw [Nat.testBit_lt_two_pow h1]; rfl
      · rw [Nat.testBit_two_pow_of_ne (Ne.symm e), Bool.and_false]
    rw [show (2147483648 : Nat) = 2 ^ 31 by decide, this]; rfl
  · next h1 =>
    obtain ⟨z, rfl⟩ : ∃ z, r = 2 ^ 31 + z := ⟨r - 2 ^ 31, by omega⟩
    have : (2 ^ 31 + z) &&& 2 ^ 31 = 2 ^ 31 := by
      apply Nat.eq_of_testBit_eq
      intro i
      rw [Nat.testBit_and]
      by_cases e : i = 31
      · subst e
        rw [Nat.testBit_two_pow_add_eq, Nat.testBit_lt_two_pow (show z < 2 ^ 31 by omega), Nat.testBit_two_pow_self]; rfl
      · rw [Nat.testBit_two_pow_of_ne (Ne.symm e), Bool.and_false]
    rw [show (2147483648 : Nat) = 2 ^ 31 by decide, this]; rfl
theorem andNot31 {r : Nat} (h : r < 4294967296) (h1 : 2147483648 ≤ r) : bitsV .andNot .u32 (r : Int) 2147483648 = ((r - 2147483648 : Nat) : Int) := by
  have e1 : (BitVec.ofInt 32 (r : Int)) = BitVec.ofNat 32 r := by simp
  have e2 : ~~~(BitVec.ofInt 32 2147483648) = BitVec.ofNat 32 2147483647 := by decide
  show IntKind.u32.wrap (((BitVec.ofInt 32 (r : Int)) &&& ~~~(BitVec.ofInt 32 2147483648)).toNat : Int) = _
  rw [e1, e2, BitVec.toNat_and, BitVec.toNat_ofNat, BitVec.toNat_ofNat, Nat.mod_eq_of_lt (by omega), Nat.mod_eq_of_lt (by decide)]
  have e3 : r &&& 2147483647 = r % 2147483648 := Nat.and_two_pow_sub_one_eq_mod r 31
  rw [e3]
  have : r % 2147483648 = r - 2147483648 := by omega
  rw [this]
  exact wrap_u32 (by omega) (by omega)
theorem or31 {n : Nat} (h : n < 2147483648) : bitsV .or .u32 2147483648 (n : Int) = ((2147483648 + n : Nat) : Int) := by
  have := bits_or (k := .u32) rfl 2147483648 n (by decide) (by show n < 2 ^ 32; omega)
  rw [show (((2147483648 : Nat)) : Int) = 2147483648 from rfl] at this
  rw [this]
  have e := Nat.two_pow_add_eq_or_of_lt (i := 31) (b := n) (by omega) 1
  rw [Nat.mul_one] at e
  rw [show (2147483648 : Nat) = 2 ^ 31 by decide, ← e]
section
variable {base : Nat} {h : Heap} {p : Ph} {s : St}
theorem Rep.h0 (R : Rep base h p s) : cellAt h ⟨p.H, 0, none⟩ = some (.slice (some ⟨p.Y, 0, none⟩) s.young.length p.yc) := by rw [cellAt_of R.hp]; rfl
theorem Rep.h1 (R : Rep base h p s) : cellAt h ⟨p.H, 1, none⟩ = some (.slice (some ⟨p.O, 0, none⟩) s.old.length p.oc) := by rw [cellAt_of R.hp]; rfl
theorem Rep.h2 (R : Rep base h p s) : cellAt h ⟨p.H, 2, none⟩ = some (.int .i64 (s.used : Int)) := by rw [cellAt_of R.hp]; rfl
theorem Rep.h3 (R : Rep base h p s) : cellAt h ⟨p.H, 3, none⟩ = some (.int .i64 (s.fresh : Int)) := by rw [cellAt_of R.hp]; rfl
theorem Rep.h4 (R : Rep base h p s) : cellAt h ⟨p.H, 4, none⟩ = some (.int .i64 (s.limit : Int)) := by rw [cellAt_of R.hp]; rfl
theorem Rep.h5 (R : Rep base h p s) : cellAt h ⟨p.H, 5, none⟩ = some (.int .i64 (s.room : Int)) := by rw [cellAt_of R.hp]; rfl
theorem Rep.h6 (R : Rep base h p s) : cellAt h ⟨p.H, 6, none⟩ = some p.fv := by rw [cellAt_of R.hp]; rfl
theorem Rep.hz (R : Rep base h p s) (k : Nat) : frozenAt h ⟨p.H, k, none⟩ = false := by simp [frozenAt, R.hp]
theorem Rep.s0 (R : Rep base h p s) : cellAt h ⟨p.S, 0, none⟩ = some (.pointer (some ⟨p.H, 0, none⟩)) := by rw [cellAt_of R.sp]; rfl
theorem Rep.sz (R : Rep base h p s) (k : Nat) : frozenAt h ⟨p.S, k, none⟩ = false := by simp [frozenAt, R.sp]
theorem Rep.sk (R : Rep base h p s) {k r : Nat} (hk : s.roots[k]? = some r) : cellAt h ⟨p.S, 1 + k, none⟩ = some (refV r) := by
  rw [cellAt_of R.sp, List.getElem?_toArray, Nat.add_comm, List.getElem?_cons_succ, List.getElem?_map, hk]; rfl
theorem Rep.rc (R : Rep base h p s) {g k x : Nat} {l : List Nat} (hg : s.RS g = some l) (hk : l[k]? = some x) : cellAt h ⟨g, k, none⟩ = some (refV x) ∧ frozenAt h ⟨g, k, none⟩ = false := by
  obtain ⟨_, h1, _⟩ := R.rs g l hg
  exact ⟨by rw [cellAt_of h1, List.getElem?_toArray, List.getElem?_map, hk]; rfl, by simp [frozenAt, h1]⟩
theorem Rep.wc (R : Rep base h p s) {g k x : Nat} {l : List Nat} (hg : s.WS g = some l) (hk : l[k]? = some x) : cellAt h ⟨g, k, none⟩ = some (wordV x) ∧ frozenAt h ⟨g, k, none⟩ = false := by
  obtain ⟨_, h1⟩ := R.ws g l hg
  exact ⟨by rw [cellAt_of h1, List.getElem?_toArray, List.getElem?_map, hk]; rfl, by simp [frozenAt, h1]⟩
theorem Rep.a3 (R : Rep base h p s) {r : Nat} {c : CP} (hr : look s r = some c) : cellAt h ⟨adrB p r, adrO r + 3, none⟩ = some (sv c.rg c.rn) := R.at hr 3 _ rfl
theorem Rep.a4 (R : Rep base h p s) {r : Nat} {c : CP} (hr : look s r = some c) : cellAt h ⟨adrB p r, adrO r + 4, none⟩ = some (sv c.wg c.wn) := R.at hr 4 _ rfl
theorem Rep.a5 (R : Rep base h p s) {r : Nat} {c : CP} (hr : look s r = some c) : cellAt h ⟨adrB p r, adrO r + 5, none⟩ = some (.int .u32 (c.to : Int)) := R.at hr 5 _ rfl
theorem Rep.a6 (R : Rep base h p s) {r : Nat} {c : CP} (hr : look s r = some c) : cellAt h ⟨adrB p r, adrO r + 6, none⟩ = some (.bool c.seen) := R.at hr 6 _ rfl
abbrev ptr (b o : Nat) : Value := .pointer (some ⟨b, o, none⟩)
theorem look_lt {r : Nat} {c : CP} (hr : look s r = some c) : (r < 2147483648 ∧ r < s.old.length) ∨ (2147483648 ≤ r ∧ r - 2147483648 < s.young.length) := by
  unfold look at hr
  split at hr
  · next e => exact .inl ⟨e, (List.getElem?_eq_some_iff.1 hr).1⟩
  · next e => exact .inr ⟨by omega, (List.getElem?_eq_some_iff.1 hr).1⟩
theorem at_any (R : Rep base h p s) {r : Nat} {c : CP} (hr : look s r = some c) (h32 : r < 4294967296) :
    HCalls Try.prog 46 #[ptr p.H 0, refV r] h fun v h' => h' = h ∧ v = ptr (adrB p r) (adrO r) := by
  refine C.h_at_calls (args := [ptr p.H 0, refV r]) rfl ?_
  have e1 := and31 h32
  have l0 := R.h0
  have l1 := R.h1
  have hl := look_lt hr
  by_cases c1 : r < 2147483648
  · rw [if_pos c1] at e1
    have hl2 : r < s.old.length := by omega
    have b1 : (0 : Int) ≤ (r : Int) := by omega
    have b2 : (r : Int) < ((s.old.length : Nat) : Int) := by omega
    unfold adrB adrO
    rw [if_pos c1, if_pos c1]
    simp (disch := first | omega | assumption) only [C.h_at_gos, T.tv, ↓reduceIte, Nat.reduceEqDiff, reduceCtorEq, Nat.reduceLeDiff, Nat.reducePow, Int.reducePow, Int.reduceToNat, Nat.reduceAdd, refV, e1, l0, l1, b1, b2]
  · rw [if_neg c1] at e1
    have e2 := andNot31 h32 (by omega)
    have hl2 : r - 2147483648 < s.young.length := by omega
    have b1 : (0 : Int) ≤ ((r - 2147483648 : Nat) : Int) := by omega
    have b2 : ((r - 2147483648 : Nat) : Int) < ((s.young.length : Nat) : Int) := by omega
    unfold adrB adrO
    rw [if_neg c1, if_neg c1]
    simp (disch := first | omega | assumption) only [C.h_at_gos, T.tv, ↓reduceIte, Nat.reduceEqDiff, reduceCtorEq, Nat.reduceLeDiff, Nat.reducePow, Int.reducePow, Int.reduceToNat, Nat.reduceAdd, refV, e1, e2, l0, l1, b1, b2, Int.reduceEq]
end
end Go.Proofs.Ytidkokdkldfglaa

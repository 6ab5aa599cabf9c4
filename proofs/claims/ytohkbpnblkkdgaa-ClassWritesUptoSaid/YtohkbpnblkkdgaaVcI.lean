/- Values: integers, strings, bools; what is read from the heap. No condition. -/
import Derived.Test.YtohkbpnblkkdgaaVcH
namespace Go.Vc
set_option linter.unusedSimpArgs false
set_option linter.unusedVariables false

def str (l : List UInt8) : Value := .string ⟨l.toArray⟩
theorem str_of (s : ByteArray) : Value.string s = str s.data.toList := by cases s; simp [str]
theorem str_inj {a b : List UInt8} (h : str a = str b) : a = b := by
  simp only [str, Value.string.injEq, ByteArray.mk.injEq] at h
  exact by simpa using congrArg Array.toList h
theorem str_fold {l : List UInt8} : Value.string ⟨l.toArray⟩ = str l := _root_.id rfl
theorem oneCell_str {l : List UInt8} : oneCell (str l) = true := rfl
theorem oneCell_int {k : IntKind} {n : Int} : oneCell (.int k n) = true := rfl
theorem oneCell_bool {b : Bool} : oneCell (.bool b) = true := rfl
theorem oneCell_ptr {a : Option Addr} : oneCell (.pointer a) = true := rfl
theorem oneCell_slice {a : Option Addr} {n c : Nat} : oneCell (.slice a n c) = true := rfl
theorem cells_str {l : List UInt8} : (str l).cells = #[str l] := rfl
theorem cells_int {k : IntKind} {n : Int} : (Value.int k n).cells = #[.int k n] := rfl
theorem cells_bool {b : Bool} : (Value.bool b).cells = #[.bool b] := rfl
theorem cells_ptr {a : Option Addr} : (Value.pointer a).cells = #[.pointer a] := rfl
theorem cells_slice {a : Option Addr} {n c : Nat} : (Value.slice a n c).cells = #[.slice a n c] := rfl
theorem cells_agg {cs : Array Value} : (Value.agg cs).cells = cs := rfl

theorem toList_loop (s : ByteArray) : ∀ (n i : Nat) (r : List UInt8), s.size - i = n → ByteArray.toList.loop s i r = r.reverse ++ s.data.toList.drop i := by
  have hlen : s.data.toList.length = s.size := Array.length_toList
  intro n
  induction n with
  | zero =>
    intro i r h
    rw [ByteArray.toList.loop, if_neg (by omega), List.drop_of_length_le (by omega), List.append_nil]
  | succ n ih =>
    intro i r h
    have hlt : i < s.size := by omega
    rw [ByteArray.toList.loop, if_pos hlt, ih (i + 1) _ (by omega)]
    have hd : s.data.toList.drop i = s.data.toList[i]'(by omega) :: s.data.toList.drop (i + 1) := by
      rw [List.drop_eq_getElem_cons]
    have hg : s.get! i = s.data.toList[i]'(by omega) := by
      show s.data[i]! = _
      have hlt' : i < s.data.size := hlt
      rw [getElem!_pos s.data i hlt']; rfl
    rw [hd, hg, List.reverse_cons, List.append_assoc]; rfl
theorem toList_mk (l : List UInt8) : (ByteArray.mk l.toArray).toList = l := by
  rw [ByteArray.toList, toList_loop _ _ 0 [] rfl]; rfl

section
variable {P : Program} {h : Heap} {t : TypeId} {x y : Operand}

theorem eqGuard_int {op : BinOp} {k k' : IntKind} {a b : Int} : eqGuard op t x y (.int k a) (.int k' b) = pure () := by
  unfold eqGuard; cases op <;> rfl
theorem eqGuard_str {op : BinOp} {a b : List UInt8} : eqGuard op t x y (str a) (str b) = pure () := by
  unfold eqGuard; cases op <;> rfl
theorem eqGuard_bool {op : BinOp} {a b : Bool} : eqGuard op t x y (.bool a) (.bool b) = pure () := by
  unfold eqGuard; cases op <;> rfl

theorem bin_add {k : IntKind} {a b : Int} : binE P .add t x y (.int k a) (.int k b) h = some (.int k (k.wrap (a + b))) := by
  unfold binE; rw [eqGuard_int, rd_bind', rd_pure]; simp [binOp, Op.intArith, rd_pure]
theorem bin_sub {k : IntKind} {a b : Int} : binE P .sub t x y (.int k a) (.int k b) h = some (.int k (k.wrap (a - b))) := by
  unfold binE; rw [eqGuard_int, rd_bind', rd_pure]; simp [binOp, Op.intArith, rd_pure]
theorem bin_mul {k : IntKind} {a b : Int} : binE P .mul t x y (.int k a) (.int k b) h = some (.int k (k.wrap (a * b))) := by
  unfold binE; rw [eqGuard_int, rd_bind', rd_pure]; simp [binOp, Op.intArith, rd_pure]
theorem bin_quo {k : IntKind} {a b : Int} (hb : b ≠ 0) : binE P .quo t x y (.int k a) (.int k b) h = some (.int k (k.wrap (a.tdiv b))) := by
  unfold binE; rw [eqGuard_int, rd_bind', rd_pure]; simp [binOp, Op.intDiv, hb, rd_pure]
theorem bin_rem {k : IntKind} {a b : Int} (hb : b ≠ 0) : binE P .rem t x y (.int k a) (.int k b) h = some (.int k (a.tmod b)) := by
  unfold binE; rw [eqGuard_int, rd_bind', rd_pure]; simp [binOp, Op.intDiv, hb, rd_pure]
theorem bin_eql {k : IntKind} {a b : Int} : binE P .eql t x y (.int k a) (.int k b) h = some (.bool (decide (a = b))) := by
  unfold binE; rw [eqGuard_int, rd_bind', rd_pure]; simp [binOp, Op.intCmp, rd_pure]; rfl
theorem bin_neq {k : IntKind} {a b : Int} : binE P .neq t x y (.int k a) (.int k b) h = some (.bool (decide (a ≠ b))) := by
  unfold binE; rw [eqGuard_int, rd_bind', rd_pure]; simp [binOp, Op.intCmp, rd_pure]; by_cases hab : a = b <;> simp [hab, bne]
theorem bin_lss {k : IntKind} {a b : Int} : binE P .lss t x y (.int k a) (.int k b) h = some (.bool (decide (a < b))) := by
  unfold binE; rw [eqGuard_int, rd_bind', rd_pure]; simp [binOp, Op.intCmp, rd_pure]
theorem bin_leq {k : IntKind} {a b : Int} : binE P .leq t x y (.int k a) (.int k b) h = some (.bool (decide (a ≤ b))) := by
  unfold binE; rw [eqGuard_int, rd_bind', rd_pure]; simp [binOp, Op.intCmp, rd_pure]
theorem bin_gtr {k : IntKind} {a b : Int} : binE P .gtr t x y (.int k a) (.int k b) h = some (.bool (decide (b < a))) := by
  unfold binE; rw [eqGuard_int, rd_bind', rd_pure]; simp [binOp, Op.intCmp, rd_pure]
theorem bin_geq {k : IntKind} {a b : Int} : binE P .geq t x y (.int k a) (.int k b) h = some (.bool (decide (b ≤ a))) := by
  unfold binE; rw [eqGuard_int, rd_bind', rd_pure]; simp [binOp, Op.intCmp, rd_pure]
theorem bin_shl {k k' : IntKind} {a b : Int} (hb : 0 ≤ b) : binE P .shl t x y (.int k a) (.int k' b) h = some (.int k (k.wrap (a * 2 ^ (min b.toNat k.bits)))) := by
  unfold binE; rw [eqGuard_int, rd_bind', rd_pure]; simp [binOp, Op.shift, rd_pure, show ¬ b < 0 by omega]
theorem bin_shr {k k' : IntKind} {a b : Int} (hb : 0 ≤ b) : binE P .shr t x y (.int k a) (.int k' b) h = some (.int k (a.fdiv (2 ^ (min b.toNat k.bits)))) := by
  unfold binE; rw [eqGuard_int, rd_bind', rd_pure]; simp [binOp, Op.shift, rd_pure, show ¬ b < 0 by omega]
def bitsV (op : BinOp) (k : IntKind) (a b : Int) : Int :=
  let x := BitVec.ofInt k.bits a
  let y := BitVec.ofInt k.bits b
  k.wrap (match op with
    | .and => (x &&& y).toNat
    | .or => (x ||| y).toNat
    | .xor => (x ^^^ y).toNat
    | _ => (x &&& ~~~y).toNat)
theorem bin_and {k : IntKind} {a b : Int} : binE P .and t x y (.int k a) (.int k b) h = some (.int k (bitsV .and k a b)) := by
  unfold binE; rw [eqGuard_int, rd_bind', rd_pure]; simp [binOp, Op.intBits, rd_pure, bitsV]
theorem bin_or {k : IntKind} {a b : Int} : binE P .or t x y (.int k a) (.int k b) h = some (.int k (bitsV .or k a b)) := by
  unfold binE; rw [eqGuard_int, rd_bind', rd_pure]; simp [binOp, Op.intBits, rd_pure, bitsV]
theorem bin_xor {k : IntKind} {a b : Int} : binE P .xor t x y (.int k a) (.int k b) h = some (.int k (bitsV .xor k a b)) := by
  unfold binE; rw [eqGuard_int, rd_bind', rd_pure]; simp [binOp, Op.intBits, rd_pure, bitsV]
theorem bin_andNot {k : IntKind} {a b : Int} : binE P .andNot t x y (.int k a) (.int k b) h = some (.int k (bitsV .andNot k a b)) := by
  unfold binE; rw [eqGuard_int, rd_bind', rd_pure]; simp [binOp, Op.intBits, rd_pure, bitsV]

theorem bin_str_add {a b : List UInt8} (hl : a.length + b.length ≤ 9223372036854775807) : binE P .add t x y (str a) (str b) h = some (str (a ++ b)) := by
  unfold binE; rw [eqGuard_str, rd_bind', rd_pure]
  have hm : IntKind.i64.max = 9223372036854775807 := rfl
  have hs : ¬ ((((ByteArray.mk a.toArray).size + (ByteArray.mk b.toArray).size : Nat) : Int) > IntKind.i64.max) := by
    rw [hm]; simp only [ByteArray.size, List.size_toArray]; omega
  simp only [Option.bind_some, binOp, str, Op.stringOp, if_neg hs, rd_pure, Option.some.injEq, Value.string.injEq]
  apply ByteArray.ext
  simp [ByteArray.data_append]
theorem bin_str_eql {a b : List UInt8} : binE P .eql t x y (str a) (str b) h = some (.bool (decide (a = b))) := by
  unfold binE; rw [eqGuard_str, rd_bind', rd_pure]
  simp only [Option.bind_some, binOp, str, Op.stringOp, toList_mk, rd_pure]
  congr 2
  by_cases hab : a = b <;> simp [hab]
theorem bin_str_neq {a b : List UInt8} : binE P .neq t x y (str a) (str b) h = some (.bool (decide (a ≠ b))) := by
  unfold binE; rw [eqGuard_str, rd_bind', rd_pure]
  simp only [Option.bind_some, binOp, str, Op.stringOp, toList_mk, rd_pure]
  congr 2
  by_cases hab : a = b <;> simp [hab]

theorem rd_underlying {d : TypeDesc} (hu : P.underlying t = some d) : rd P (underlying t) h = some d := by
  show (match rd P (match P.underlying t with | some d => pure d | none => stuck "no such type") h with | v => v) = _
  rw [hu]; rfl
theorem rd_typeInfo {i : TypeInfo} (hi : P.info? t = some i) : rd P (typeInfo t) h = some i := by
  show rd P (match P.info? t with | some i => pure i | none => stuck "no such type") h = _
  rw [hi]; rfl
theorem rd_sizeOf {i : TypeInfo} (hi : P.info? t = some i) : rd P (sizeOf t) h = some i.size := by
  unfold sizeOf; rw [rd_bind', rd_typeInfo hi]; rfl
theorem rd_isAgg {d : TypeDesc} (hu : P.underlying t = some d) : rd P (isAgg t) h = some (match d with | .struct _ | .array _ _ => true | _ => false) := by
  unfold isAgg; rw [rd_bind', rd_underlying hu]; cases d <;> rfl

theorem rd_eq_bool {d : Nat} {a b : Bool} (hu : P.underlying t = some .bool) : rd P (Op.equalIn (d + 1) t (.bool a) (.bool b)) h = some (a == b) := by
  rw [Op.equalIn, rd_bind', rd_underlying hu]; rfl
theorem bin_bool_eql {a b : Bool} (hu : P.underlying t = some .bool) : binE P .eql t x y (.bool a) (.bool b) h = some (.bool (decide (a = b))) := by
  unfold binE; rw [eqGuard_bool, rd_bind', rd_pure, Option.bind_some]
  show rd P (Op.equalIn (9999 + 1) t (.bool a) (.bool b) >>= fun b => pure (Value.bool b)) h = _
  rw [rd_bind', rd_eq_bool hu, Option.bind_some]
  cases a <;> cases b <;> rfl
theorem bin_bool_neq {a b : Bool} (hu : P.underlying t = some .bool) : binE P .neq t x y (.bool a) (.bool b) h = some (.bool (decide (a ≠ b))) := by
  unfold binE; rw [eqGuard_bool, rd_bind', rd_pure, Option.bind_some]
  show rd P (Op.equalIn (9999 + 1) t (.bool a) (.bool b) >>= fun b => pure (Value.bool (!b))) h = _
  rw [rd_bind', rd_eq_bool hu, Option.bind_some]
  cases a <;> cases b <;> rfl

theorem un_not {b : Bool} : unE P .not (.bool b) h = some (.bool !b) := rfl
theorem un_neg {k : IntKind} {a : Int} : unE P .neg (.int k a) h = some (.int k (k.wrap (0 - a))) := rfl

theorem cv_int {s d : TypeId} {ds : TypeDesc} {k k' : IntKind} {n : Int} (hs : P.underlying s = some ds) (hd : P.underlying d = some (.int k')) : cvE P s d (.int k n) h = some (.int k' (k'.wrap n)) := by
  unfold cvE convert
  rw [rd_bind', rd_underlying hs, Option.bind_some, rd_bind', rd_underlying hd, Option.bind_some]
  cases ds <;> rfl

theorem len_str {ty : TypeId} {l : List UInt8} (hu : P.underlying t = some .string) : lenE P t ty (str l) h = some (.int .i64 l.length) := by
  unfold lenE Builtin.len_
  simp only [str, List.getElem?_toArray, List.getElem?_cons_zero, rd_bind', rd_underlying hu, Option.bind_some]
  rfl
theorem len_slice {ty e : TypeId} {a : Option Addr} {n c : Nat} (hu : P.underlying t = some (.slice e)) : lenE P t ty (.slice a n c) h = some (.int .i64 n) := by
  unfold lenE Builtin.len_
  simp only [List.getElem?_toArray, List.getElem?_cons_zero, rd_bind', rd_underlying hu, Option.bind_some]
  rfl

theorem ix_str {l : List UInt8} {k : IntKind} {i : Int} (hu : P.underlying t = some .string) (h0 : 0 ≤ i) (h1 : i < l.length) : ixE P t (str l) (.int k i) h = some (.int .u8 ((l.getD i.toNat 0).toNat : Int)) := by
  have hlt : i.toNat < l.length := by omega
  unfold ixE Instr.index
  simp only [asIntOf, rd_bind', rd_pure, Option.bind_some, rd_underlying hu, str, if_pos h0]
  have hg : (ByteArray.mk l.toArray)[i.toNat]? = some l[i.toNat] := by
    have : i.toNat < (ByteArray.mk l.toArray).size := by simpa [ByteArray.size] using hlt
    rw [getElem?_pos (ByteArray.mk l.toArray) i.toNat this]
    rfl
  simp only [hg, rd_pure, Option.some.injEq, Value.int.injEq, true_and]
  simp [hlt]

theorem rd_bound {k : IntKind} {i : Int} {n : Nat} {c : BoundsCode} (h0 : 0 ≤ i) (h1 : i ≤ n) : rd P (Instr.sliceBound (.int k i) n c) h = some i.toNat := by
  unfold Instr.sliceBound
  simp only [asIntOf, rd_bind', rd_pure, Option.bind_some]
  rw [if_pos ⟨h0, h1⟩]; rfl

theorem extract_mk (l : List UInt8) (a b : Nat) : (ByteArray.mk l.toArray).extract a b = ⟨((l.take b).drop a).toArray⟩ := by
  apply ByteArray.ext
  rw [ByteArray.data_extract]
  apply Array.toList_inj.1; simp [List.extract_eq_take_drop, List.drop_take]

theorem sl_str_lh {l : List UInt8} {k k' : IntKind} {a b : Int} (hu : P.underlying t = some .string) (h0 : 0 ≤ a) (h1 : a ≤ b) (h2 : b ≤ l.length) :
    slE P t (str l) (some (.int k a)) (some (.int k' b)) none h = some (str ((l.take b.toNat).drop a.toNat)) := by
  unfold slE Instr.sliceAt
  rw [rd_bind', rd_underlying hu, Option.bind_some]
  simp only [Instr.slice, rd_bind', rd_underlying hu, Option.bind_some, str, Option.isSome_none, Bool.false_eq_true, if_false, Instr.sliceBounds, rd_pure]
  rw [rd_bound (by omega) (by simp only [ByteArray.size, List.size_toArray]; omega)]
  simp only [Option.bind_some]
  rw [rd_bound h0 (by omega)]
  simp only [Option.bind_some, extract_mk]
theorem sl_str_l {l : List UInt8} {k : IntKind} {a : Int} (hu : P.underlying t = some .string) (h0 : 0 ≤ a) (h2 : a ≤ l.length) :
    slE P t (str l) (some (.int k a)) none none h = some (str (l.drop a.toNat)) := by
  unfold slE Instr.sliceAt
  rw [rd_bind', rd_underlying hu, Option.bind_some]
  simp only [Instr.slice, rd_bind', rd_underlying hu, Option.bind_some, str, Option.isSome_none, Bool.false_eq_true, if_false, Instr.sliceBounds, rd_pure]
  rw [rd_bound h0 (by simp only [ByteArray.size, List.size_toArray]; omega)]
  simp only [Option.bind_some, extract_mk]
  simp [ByteArray.size]
theorem sl_str_h {l : List UInt8} {k' : IntKind} {b : Int} (hu : P.underlying t = some .string) (h1 : 0 ≤ b) (h2 : b ≤ l.length) :
    slE P t (str l) none (some (.int k' b)) none h = some (str (l.take b.toNat)) := by
  unfold slE Instr.sliceAt
  rw [rd_bind', rd_underlying hu, Option.bind_some]
  simp only [Instr.slice, rd_bind', rd_underlying hu, Option.bind_some, str, Option.isSome_none, Bool.false_eq_true, if_false, Instr.sliceBounds, rd_pure]
  rw [rd_bound h1 (by simp only [ByteArray.size, List.size_toArray]; omega)]
  simp only [Option.bind_some, extract_mk, List.drop_zero]
end

/-! ### Without wraps -/
theorem wrap_i64 {x : Int} (h0 : -9223372036854775808 ≤ x) (h1 : x < 9223372036854775808) : IntKind.i64.wrap x = x := by
  simp only [IntKind.wrap, IntKind.bits, IntKind.signed, Bool.true_and, decide_eq_true_eq, Nat.reduceSub, Int.reducePow]
  split <;> rename_i hh <;> simp at hh <;> omega
theorem wrap_i32 {x : Int} (h0 : -2147483648 ≤ x) (h1 : x < 2147483648) : IntKind.i32.wrap x = x := by
  simp only [IntKind.wrap, IntKind.bits, IntKind.signed, Bool.true_and, decide_eq_true_eq, Nat.reduceSub, Int.reducePow]
  split <;> rename_i hh <;> simp at hh <;> omega
theorem wrap_u8 {x : Int} (h0 : 0 ≤ x) (h1 : x < 256) : IntKind.u8.wrap x = x := by
  simp only [IntKind.wrap, IntKind.bits, IntKind.signed, Bool.false_and, Bool.false_eq_true, if_false, Int.reducePow]; omega
theorem wrap_u16 {x : Int} (h0 : 0 ≤ x) (h1 : x < 65536) : IntKind.u16.wrap x = x := by
  simp only [IntKind.wrap, IntKind.bits, IntKind.signed, Bool.false_and, Bool.false_eq_true, if_false, Int.reducePow]; omega
theorem wrap_u32 {x : Int} (h0 : 0 ≤ x) (h1 : x < 4294967296) : IntKind.u32.wrap x = x := by
  simp only [IntKind.wrap, IntKind.bits, IntKind.signed, Bool.false_and, Bool.false_eq_true, if_false, Int.reducePow]; omega
theorem wrap_u64 {x : Int} (h0 : 0 ≤ x) (h1 : x < 18446744073709551616) : IntKind.u64.wrap x = x := by
  simp only [IntKind.wrap, IntKind.bits, IntKind.signed, Bool.false_and, Bool.false_eq_true, if_false, Int.reducePow]; omega

theorem wrap_nonneg {k : IntKind} (hk : k.signed = false) {x : Int} (h0 : 0 ≤ x) (h1 : x < 2 ^ k.bits) : k.wrap x = x := by
  simp only [IntKind.wrap, hk, Bool.false_and, Bool.false_eq_true, if_false]
  exact Int.emod_eq_of_lt h0 h1

theorem bits_and {k : IntKind} (hk : k.signed = false) (a b : Nat) (ha : a < 2 ^ k.bits) (hb : b < 2 ^ k.bits) : bitsV .and k a b = ((a &&& b : Nat) : Int) := by
  have h1 : (BitVec.ofInt k.bits (a : Int)) = BitVec.ofNat k.bits a := by simp
  have h2 : (BitVec.ofInt k.bits (b : Int)) = BitVec.ofNat k.bits b := by simp
  simp only [bitsV, h1, h2, BitVec.toNat_and, BitVec.toNat_ofNat, Nat.mod_eq_of_lt ha, Nat.mod_eq_of_lt hb]
  refine wrap_nonneg hk (by omega) ?_
  have : a &&& b < 2 ^ k.bits := Nat.and_lt_two_pow a hb
  exact_mod_cast this
theorem bits_or {k : IntKind} (hk : k.signed = false) (a b : Nat) (ha : a < 2 ^ k.bits) (hb : b < 2 ^ k.bits) : bitsV .or k a b = ((a ||| b : Nat) : Int) := by
  have h1 : (BitVec.ofInt k.bits (a : Int)) = BitVec.ofNat k.bits a := by simp
  have h2 : (BitVec.ofInt k.bits (b : Int)) = BitVec.ofNat k.bits b := by simp
  simp only [bitsV, h1, h2, BitVec.toNat_or, BitVec.toNat_ofNat, Nat.mod_eq_of_lt ha, Nat.mod_eq_of_lt hb]
  refine wrap_nonneg hk (by omega) ?_
  have : a ||| b < 2 ^ k.bits := Nat.or_lt_two_pow ha hb
  exact_mod_cast this

theorem bits_8 : IntKind.u8.bits = 8 := rfl
theorem bits_16 : IntKind.u16.bits = 16 := rfl
theorem bits_32 : IntKind.u32.bits = 32 := rfl
theorem bits_64 : IntKind.u64.bits = 64 := rfl
theorem bits_i64 : IntKind.i64.bits = 64 := rfl
theorem bits_i32 : IntKind.i32.bits = 32 := rfl

/-! ### Places, by the program's own types (the side conditions are closed) -/
section
variable {P : Program} {h : Heap}
def faT (P : Program) (s : TypeId) (f off : Nat) : Bool := match P.underlying s with
  | some (.struct fs) => match fs[f]? with
    | some fld => fld.offset == off && (match P.info? fld.type with
      | some i => decide (0 < i.size)
      | none => false)
    | none => false
  | _ => false
theorem addr_add {b o n : Nat} : (⟨b, o, none⟩ : Addr).add n = ⟨b, o + n, none⟩ := by unfold Addr.add; split <;> simp_all
theorem fa_of {s : TypeId} {f off b o : Nat} (ht : faT P s f off = true) : faE P s (.pointer (some ⟨b, o, none⟩)) f h = some (.pointer (some ⟨b, o + off, none⟩)) := by
  unfold faT at ht
  cases hu : P.underlying s with
  | none => rw [hu] at ht; cases ht
  | some d =>
    rw [hu] at ht
    cases d <;> simp only [Bool.false_eq_true] at ht
    rename_i fs
    cases hf : fs[f]? with
    | none => rw [hf] at ht; cases ht
    | some fld =>
      rw [hf] at ht
      simp only [Bool.and_eq_true, beq_iff_eq] at ht
      cases hi : P.info? fld.type with
      | none => rw [hi] at ht; cases ht.2
      | some i =>
        rw [hi] at ht
        simp only [decide_eq_true_eq] at ht
        unfold faE Instr.fieldAt
        simp only [rd_bind', rd_underlying hu, Option.bind_some, hf, Instr.sureAddr, rd_pure, fieldPlace, rd_sizeOf hi]
        rw [if_neg (by omega)]
        simp only [rd_pure, Option.bind_some, addr_add, ht.1]
def fdT (P : Program) (s : TypeId) (f off sz : Nat) (agg : Bool) : Bool := match P.underlying s with
  | some (.struct fs) => match fs[f]? with
    | some fld => fld.offset == off && (match P.underlying fld.type with
      | some (.struct _) | some (.array _ _) => agg
      | some _ => !agg
      | none => false) && (match P.info? fld.type with
      | some i => i.size == sz
      | none => false)
    | none => false
  | _ => false
theorem fd_of {s : TypeId} {f off sz : Nat} {agg : Bool} {cs : Array Value} (ht : fdT P s f off sz agg = true) : fdE P s (.agg cs) f h = if agg then some (.agg (cs.extract off (off + sz))) else cs[off]? := by
  unfold fdT at ht
  cases hu : P.underlying s with
  | none => rw [hu] at ht; cases ht
  | some d =>
    rw [hu] at ht
    cases d <;> simp only [Bool.false_eq_true] at ht
    rename_i fs
    cases hf : fs[f]? with
    | none => rw [hf] at ht; cases ht
    | some fld =>
      rw [hf] at ht
      simp only [Bool.and_eq_true, beq_iff_eq] at ht
      obtain ⟨⟨h1, h2⟩, h3⟩ := ht
      cases hi : P.info? fld.type with
      | none => rw [hi] at h3; cases h3
      | some i =>
        rw [hi] at h3
        have h3 : i.size = sz := by simpa using h3
        cases hu2 : P.underlying fld.type with
        | none => rw [hu2] at h2; cases h2
        | some d2 =>
          rw [hu2] at h2
          unfold fdE Instr.field
          simp only [rd_bind', rd_underlying hu, Option.bind_some, hf, asAgg, rd_pure, part, rd_isAgg hu2]
          cases d2 <;> simp only [Bool.not_eq_true'] at h2 <;> subst h2 <;> first
            | (simp only [if_true, rd_bind', rd_sizeOf hi, Option.bind_some, h3, h1, rd_pure]; done)
            | (simp only [Bool.false_eq_true, if_false, h1]; cases cs[off]? <;> rfl)
def ixT (P : Program) (t : TypeId) (size : Nat) : Bool := match P.underlying t with
  | some (.slice e) => match P.info? e with
    | some i => i.size == size
    | none => false
  | _ => false
theorem ia_of {t : TypeId} {size b o n c : Nat} {k : IntKind} {i : Int} (ht : ixT P t size = true) (h0 : 0 ≤ i) (h1 : i < n) :
    iaE P t (.slice (some ⟨b, o, none⟩) n c) (.int k i) h = some (.pointer (some ⟨b, o + i.toNat * size, none⟩)) := by
  unfold ixT at ht
  cases hu : P.underlying t with
  | none => rw [hu] at ht; cases ht
  | some d =>
    rw [hu] at ht
    cases d <;> simp only [Bool.false_eq_true] at ht
    rename_i e
    cases hi : P.info? e with
    | none => rw [hi] at ht; cases ht
    | some inf =>
      rw [hi] at ht
      have hs : inf.size = size := by simpa using ht
      unfold iaE Instr.indexAt
      simp only [asIntOf, rd_bind', rd_pure, Option.bind_some, rd_underlying hu, if_pos (And.intro h0 h1), rd_sizeOf hi, hs, addr_add]
end
end Go.Vc

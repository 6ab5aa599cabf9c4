/- Numbers with parts: the rules of their operations. No condition. -/
import Derived.Test.YtedleaeohbjfnaaVcS
import Derived.Test.YtedleaeohbjfnaaVcX
namespace Go.Vc
set_option linter.unusedSimpArgs false
set_option linter.unusedVariables false
section
variable {P : Program} {τ ρ : Env} {h : Heap} {K : Value → Heap → Prop} {ty t : TypeId} {x y : Operand} {k : FloatKind} {a b : Nat}
theorem eqGuard_float {op : BinOp} {k k' : FloatKind} : eqGuard op t x y (.float k a) (.float k' b) = pure () := by
  unfold eqGuard; cases op <;> rfl
theorem bin_feql : binE P .eql t x y (.float k a) (.float k b) h = some (.bool (k.format.order a b == some .eq)) := by
  unfold binE; rw [eqGuard_float, rd_bind', rd_pure]; simp [binOp, Op.floatCmp, rd_pure]
theorem bin_fneq : binE P .neq t x y (.float k a) (.float k b) h = some (.bool (k.format.order a b != some .eq)) := by
  unfold binE; rw [eqGuard_float, rd_bind', rd_pure]; simp [binOp, Op.floatCmp, rd_pure]
theorem bin_flss : binE P .lss t x y (.float k a) (.float k b) h = some (.bool (k.format.order a b == some .lt)) := by
  unfold binE; rw [eqGuard_float, rd_bind', rd_pure]; simp [binOp, Op.floatCmp, rd_pure]
theorem bin_fleq : binE P .leq t x y (.float k a) (.float k b) h = some (.bool (k.format.order a b == some .lt || k.format.order a b == some .eq)) := by
  unfold binE; rw [eqGuard_float, rd_bind', rd_pure]; simp [binOp, Op.floatCmp, rd_pure]
theorem bin_fgtr : binE P .gtr t x y (.float k a) (.float k b) h = some (.bool (k.format.order a b == some .gt)) := by
  unfold binE; rw [eqGuard_float, rd_bind', rd_pure]; simp [binOp, Op.floatCmp, rd_pure]
theorem bin_fgeq : binE P .geq t x y (.float k a) (.float k b) h = some (.bool (k.format.order a b == some .gt || k.format.order a b == some .eq)) := by
  unfold binE; rw [eqGuard_float, rd_bind', rd_pure]; simp [binOp, Op.floatCmp, rd_pure]
theorem un_fneg : unE P .neg (.float k b) h = some (.float k (b ^^^ 2 ^ (k.format.exponentBits + k.format.fractionBits))) := rfl
set_option linter.defProp false in
def vf := And.intro @wrap_u64 (And.intro @rdo_max (And.intro @max_int (And.intro @un_neg (And.intro @bin_feql (And.intro @bin_fneq (And.intro @bin_flss (And.intro @bin_fleq (And.intro @bin_fgtr (And.intro @bin_fgeq @un_fneg)))))))))
/-- The bits of what is no number. -/
def NaNw (f : Ieee.Format) (r : Nat) : Prop := f.infRung < r % f.signWeight ∧ r < 2 ^ f.width
theorem cut_bits (k : FloatKind) (n : Nat) : NaNw k.format ((Question.nanBits k a b).cut n) := by
  cases k
  · show Ieee.single.infRung < ((n % 2) * 2 ^ 31 + 0x7f800000 + 1 + (n / 2) % (2 ^ 23 - 1)) % Ieee.single.signWeight ∧ (n % 2) * 2 ^ 31 + 0x7f800000 + 1 + (n / 2) % (2 ^ 23 - 1) < 2 ^ Ieee.single.width
    rw [show Ieee.single.infRung = 0x7f800000 by decide, show Ieee.single.signWeight = 2147483648 by decide, show Ieee.single.width = 32 by decide]
    have hz := Nat.mod_lt (n / 2) (show 2 ^ 23 - 1 > 0 by decide)
    generalize n / 2 % (2 ^ 23 - 1) = z at *
    rcases Nat.mod_two_eq_zero_or_one n with e | e <;> rw [e] <;> omega
  · show Ieee.double.infRung < ((n % 2) * 2 ^ 63 + 0x7ff0000000000000 + 1 + (n / 2) % (2 ^ 52 - 1)) % Ieee.double.signWeight ∧ (n % 2) * 2 ^ 63 + 0x7ff0000000000000 + 1 + (n / 2) % (2 ^ 52 - 1) < 2 ^ Ieee.double.width
    rw [show Ieee.double.infRung = 0x7ff0000000000000 by decide, show Ieee.double.signWeight = 9223372036854775808 by decide, show Ieee.double.width = 64 by decide]
    have hz := Nat.mod_lt (n / 2) (show 2 ^ 52 - 1 > 0 by decide)
    generalize n / 2 % (2 ^ 52 - 1) = z at *
    rcases Nat.mod_two_eq_zero_or_one n with e | e <;> rw [e] <;> omega
theorem cut_conv (k : FloatKind) (n : Nat) : NaNw k.format ((Question.nanConv k a).cut n) := by
  have := cut_bits (a := a) (b := a) k n
  cases k <;> exact this
def fop (o : BinOp) (f : Ieee.Format) (a b : Nat) : Option Nat := match o with
  | .add => f.add a b
  | .sub => f.sub a b
  | .mul => f.mul a b
  | .quo => f.div a b
  | _ => none
def fio : BinOp → Bool
  | .add | .sub | .mul | .quo => true
  | _ => false
theorem hr_farith {op : BinOp} (ho : fio op = true) (H1 : ∀ z, fop op k.format a b = some z → K (.float k z) h) (H2 : fop op k.format a b = none → ∀ r, NaNw k.format r → K (.float k r) h) :
    hr P (Op.floatArith op k a b) h K := by
  have e : Op.floatArith op k a b = (match fop op k.format a b with | some r => pure (.float k r) | none => do pure (.float k (← choose (.nanBits k a b)))) := by
    cases op <;> first | (cases ho; done) | rfl
  rw [e]
  cases hz : fop op k.format a b with
  | some z => exact H1 z hz
  | none =>
    intro n
    exact H2 hz _ (cut_bits k n)
theorem eff_farith {op : BinOp} {yt : TypeId} (hx : evo τ ρ x = some (.float k a)) (hy : evo τ ρ y = some (.float k b)) (ho : fio op = true)
    (H1 : ∀ z, fop op k.format a b = some z → K (.float k z) h) (H2 : fop op k.format a b = none → ∀ r, NaNw k.format r → K (.float k r) h) : eff P (.binOp op t x y yt) ty τ ρ h K := by
  refine eff_2 (by rfl) hx hy fun f hf hg => ?_
  simp only [execOp, Sop.oper, hf, hg]
  refine sr_v (sr_of_hr ?_)
  rw [eqGuard_float]
  show hr P (binOp op t (.float k a) (.float k b)) h K
  have e : binOp op t (.float k a) (.float k b) = Op.floatArith op k a b := by
    cases op <;> first | (cases ho; done) | (simp [binOp])
  rw [e]
  exact hr_farith ho H1 H2
/-- From one kind to the other: what is no number stays none; what fits is the nearest. -/
theorem eff_fconv {s d : TypeId} {k' : FloatKind} (hs : P.underlying s = some (.float k)) (hd : P.underlying d = some (.float k')) (hx : evo τ ρ x = some (.float k a)) (hne : k ≠ k')
    (H1 : (k.format.read a).isNaN = true → ∀ r, NaNw k'.format r → K (.float k' r) h)
    (H2 : (k.format.read a).isNaN = false → ((k.format.read a).isInfinity = true ∨ (k'.format.read (k'.format.write (k.format.read a))).isInfinity = false) ∧ K (.float k' (k'.format.write (k.format.read a))) h) : eff P (.convert s d x) ty τ ρ h K := by
  refine eff_1 (by rfl) hx fun f hf => ?_
  simp only [execOp, Sop.oper, hf]
  refine sr_v (sr_of_hr ?_)
  suffices H : hr P (Conv.floatToFloat k a k') h K by
    unfold convert
    rw [hr_bind']
    refine hr_of_rd _ _ _ _ (rd_underlying hs) ?_
    rw [hr_bind']
    refine hr_of_rd _ _ _ _ (rd_underlying hd) ?_
    exact H
  unfold Conv.floatToFloat
  rw [if_neg hne]
  show hr P (match k.format.read a with | .nan _ _ => _ | .infinity s => _ | .number s m e => _) h K
  cases hr' : k.format.read a with
  | nan s n =>
    rw [hr'] at H1
    intro n
    exact H1 rfl _ (cut_conv k' n)
  | infinity s =>
    rw [hr'] at H2
    exact (H2 rfl).2
  | number s m e =>
    rw [hr'] at H2
    obtain ⟨g1, g2⟩ := H2 rfl
    rcases g1 with g1 | g1
    · cases g1
    simp only
    show hr P (if (k'.format.read (k'.format.write (.number s m e))).isInfinity then _ else _) h K
    rw [g1]
    exact g2
end
end Go.Vc

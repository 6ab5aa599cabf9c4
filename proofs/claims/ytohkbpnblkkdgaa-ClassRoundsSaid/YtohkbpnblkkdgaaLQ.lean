/- Classes out of bytes: what is read (plain). -/
import Derived.Test.YtohkbpnblkkdgaaMP
import Derived.Test.YtohkbpnblkkdgaaLP
namespace Go.Proofs.Ytohkbpnblkkdgaa
open Go.Vc
set_option maxRecDepth 100000
set_option linter.unusedSimpArgs false
set_option linter.unusedVariables false

def strS (p : List Cst) (k : Nat) : List UInt8 := if isS p k 1 = true then (p.getD k Cst.zero).text else []
/-- What looks at an attribute: its name, where it begins, how long it is said to be; none: it is passed over. -/
abbrev Take (σ : Type) := List UInt8 → Nat → Nat → σ → RS → Option (σ × RS)
def attrsR {σ : Type} (p : List Cst) (l : List UInt8) (take : Take σ) : Nat → σ → RS → σ × RS
  | 0, x, s => (x, s)
  | k + 1, x, s =>
    if s.e ≠ 0 then (x, s)
    else if (numS l 4 (if isS p (numS l 2 s).1 1 = true then (numS l 2 s).2 else failS 7 s.p (numS l 2 s).2)).2.e ≠ 0 then
      (x, (numS l 4 (if isS p (numS l 2 s).1 1 = true then (numS l 2 s).2 else failS 7 s.p (numS l 2 s).2)).2)
    else
      let b := numS l 4 (if isS p (numS l 2 s).1 1 = true then (numS l 2 s).2 else failS 7 s.p (numS l 2 s).2)
      match take (strS p (numS l 2 s).1) s.p b.1 x b.2 with
      | none => attrsR p l take k x (takeS l b.1 b.2).2
      | some y => attrsR p l take k y.1 (if y.2.p = b.2.p + b.1 then y.2 else failS 12 s.p y.2)
theorem attrsR_bad {σ : Type} {p : List Cst} {l : List UInt8} {take : Take σ} {k : Nat} {x : σ} {s : RS} (h : s.e ≠ 0) : attrsR p l take k x s = (x, s) := by
  cases k with
  | zero => rfl
  | succ k => rw [attrsR, if_pos h]
/-- How much is said to be in an attribute. -/
def attB (p : List Cst) (l : List UInt8) (s : RS) : Nat × RS := numS l 4 (if isS p (numS l 2 s).1 1 = true then (numS l 2 s).2 else failS 7 s.p (numS l 2 s).2)
theorem attrsR_step {σ : Type} {p : List Cst} {l : List UInt8} {take : Take σ} {k : Nat} {x : σ} {s : RS} (h : s.e = 0) :
    attrsR p l take (k + 1) x s = if (attB p l s).2.e ≠ 0 then (x, (attB p l s).2)
      else match take (strS p (numS l 2 s).1) s.p (attB p l s).1 x (attB p l s).2 with
        | none => attrsR p l take k x (takeS l (attB p l s).1 (attB p l s).2).2
        | some y => attrsR p l take k y.1 (if y.2.p = (attB p l s).2.p + (attB p l s).1 then y.2 else failS 12 s.p y.2) := by
  rw [attrsR, if_neg (by simp [h])]; rfl
def loopS {α : Type} (f : RS → α × RS) : Nat → List α → RS → List α × RS
  | 0, xs, s => (xs, s)
  | k + 1, xs, s => if s.e ≠ 0 then (xs, s) else loopS f k (xs ++ [(f s).1]) (f s).2
theorem loopS_bad {α : Type} {f : RS → α × RS} {k : Nat} {xs : List α} {s : RS} (h : s.e ≠ 0) : loopS f k xs s = (xs, s) := by
  cases k with
  | zero => rfl
  | succ k => rw [loopS, if_pos h]
def onceR (seen : Bool) (q : Nat) (s : RS) : RS := if seen = true then failS 11 q s else s
def fldT (l : List UInt8) : Take (Bool × Nat) := fun name q _ x s => if name = cvN then some ((true, (numS l 2 (onceR x.1 q s)).1), (numS l 2 (onceR x.1 q s)).2) else none
def fieldR (p : List Cst) (l : List UInt8) (s : RS) : Fld × RS :=
  let a := numS l 2 s
  let b := numS l 2 a.2
  let c := numS l 2 b.2
  let k := numS l 2 c.2
  let r := attrsR p l (fldT l) k.1 (false, 0) k.2
  (⟨a.1, b.1, c.1, r.1.2⟩, r.2)
def hndR (l : List UInt8) (s : RS) : Hnd × RS :=
  let a := numS l 2 s
  let b := numS l 2 a.2
  let c := numS l 2 b.2
  let d := numS l 2 c.2
  (⟨(a.1 : Int), (b.1 : Int), (c.1 : Int), d.1⟩, d.2)
def smT (l : List UInt8) : Take (Bool × List UInt8) := fun name q n x s => if name = smN then some ((true, (takeS l n (onceR x.1 q s)).1), (takeS l n (onceR x.1 q s)).2) else none
def codeR (p : List Cst) (l : List UInt8) (s : RS) : Cde × RS :=
  let a := numS l 2 s
  let b := numS l 2 a.2
  let n := numS l 4 b.2
  let t := takeS l n.1 n.2
  let k := numS l 2 t.2
  let hs := loopS (hndR l) k.1 [] k.2
  let j := numS l 2 hs.2
  let r := attrsR p l (smT l) j.1 (false, []) j.2
  (⟨(a.1 : Int), (b.1 : Int), t.1, hs.1, r.1.2⟩, r.2)
def cdT (p : List Cst) (l : List UInt8) : Take (Bool × Cde) := fun name q _ x s => if name = cdN then some ((true, (codeR p l (onceR x.1 q s)).1), (codeR p l (onceR x.1 q s)).2) else none
def cde0 : Cde := ⟨0, 0, [], [], []⟩
def methodR (p : List Cst) (l : List UInt8) (s : RS) : Mth × RS :=
  let a := numS l 2 s
  let b := numS l 2 a.2
  let c := numS l 2 b.2
  let k := numS l 2 c.2
  let r := attrsR p l (cdT p l) k.1 (false, cde0) k.2
  (⟨a.1, b.1, c.1, r.1.1, r.1.2⟩, r.2)
def noT : Take Unit := fun _ _ _ _ _ => none
/-- All behind the pool. -/
def restR (p : List Cst) (l : List UInt8) (mi ma : Nat) (s : RS) : Cls × RS :=
  let a := numS l 2 s
  let b := numS l 2 a.2
  let c := numS l 2 b.2
  let n1 := numS l 2 c.2
  let i := loopS (numS l 2) n1.1 [] n1.2
  let n2 := numS l 2 i.2
  let f := loopS (fieldR p l) n2.1 [] n2.2
  let n3 := numS l 2 f.2
  let m := loopS (methodR p l) n3.1 [] n3.2
  let n4 := numS l 2 m.2
  let z := (attrsR p l noT n4.1 () n4.2).2
  (⟨mi, ma, a.1, b.1, c.1, p, i.1, f.1, m.1⟩, if z.p < l.length then failS 2 z.p z else z)
def cls0 : Cls := ⟨0, 0, 0, 0, 0, [], [], [], []⟩
def finC (r : Cls × RS) : Cls × Nat × Nat := if r.2.e ≠ 0 then (cls0, r.2.e, r.2.es) else (r.1, 0, 0)
theorem numS_e {l : List UInt8} {n : Nat} {s : RS} (h : s.e ≠ 0) : (numS l n s).2 = s := by
  unfold numS takeS; simp [h]
theorem restR_bad {p : List Cst} {l : List UInt8} {mi ma : Nat} {s : RS} (h : s.e ≠ 0) : (restR p l mi ma s).2 = s := by
  have e1 := numS_e (l := l) (n := 2) h
  unfold restR
  simp only [e1, loopS_bad h, attrsR_bad h]
  split
  · exact failS_e h
  · rfl
end Go.Proofs.Ytohkbpnblkkdgaa

/- The space plainly: what holds of it between two steps; what it stands for. No condition. -/
import Derived.Test.YtidkokdkldfglaaUC
namespace Go.Proofs.Ytidkokdkldfglaa
open Go.Vc
set_option maxRecDepth 100000
set_option linter.unusedSimpArgs false
set_option linter.unusedVariables false

def sumF (f : CP → Nat) (l : List CP) : Nat := (l.map f).sum
theorem sumF_nil {f : CP → Nat} : sumF f [] = 0 := rfl
theorem sumF_cons {f : CP → Nat} {c : CP} {l : List CP} : sumF f (c :: l) = f c + sumF f l := by simp [sumF]
theorem sumF_app {f : CP → Nat} {l m : List CP} : sumF f (l ++ m) = sumF f l + sumF f m := by simp [sumF]
theorem sumF_one {f : CP → Nat} {c : CP} : sumF f [c] = f c := by simp [sumF]
theorem sumF_set {f : CP → Nat} : ∀ {l : List CP} {i : Nat} {c c' : CP}, l[i]? = some c → sumF f (l.set i c') + f c = sumF f l + f c'
  | [], i, c, c', h => by simp at h
  | d :: r, 0, c, c', h => by
    simp only [List.getElem?_cons_zero, Option.some.injEq] at h
    subst h
    rw [List.set_cons_zero, sumF_cons, sumF_cons]; omega
  | d :: r, i + 1, c, c', h => by
    rw [List.getElem?_cons_succ] at h
    have := sumF_set (f := f) (c' := c') h
    rw [List.set_cons_succ, sumF_cons, sumF_cons]; omega
theorem sumF_le {f : CP → Nat} {n : Nat} (hf : ∀ c, n ≤ f c) : ∀ l : List CP, l.length * n ≤ sumF f l
  | [] => by simp
  | c :: l => by
    have := sumF_le hf l
    have := hf c
    rw [sumF_cons, List.length_cons, Nat.add_mul]; omega
theorem sumF_mono {f g : CP → Nat} (hf : ∀ c, f c ≤ g c) : ∀ l : List CP, sumF f l ≤ sumF g l
  | [] => by simp [sumF_nil]
  | c :: l => by
    have := sumF_mono hf l
    have := hf c
    rw [sumF_cons, sumF_cons]; omega
theorem sumF_mem {f : CP → Nat} : ∀ {l : List CP} {i : Nat} {c : CP}, l[i]? = some c → f c ≤ sumF f l
  | [], i, c, h => by simp at h
  | d :: r, 0, c, h => by
    simp only [List.getElem?_cons_zero, Option.some.injEq] at h
    subst h; rw [sumF_cons]; omega
  | d :: r, i + 1, c, h => by
    rw [List.getElem?_cons_succ] at h
    have := sumF_mem (f := f) h
    rw [sumF_cons]; omega
def wsum : List CP → Nat := sumF CP.size
def seenN (c : CP) : Nat := if c.seen = true then 1 else 0
def rl (s : St) (c : CP) : List Nat := (c.rg.bind s.RS).getD []
def wl (s : St) (c : CP) : List Nat := (c.wg.bind s.WS).getD []
/-- A reference of a thing that there is. -/
def valid (s : St) (r : Nat) : Prop := (r < 2147483648 ∧ r < s.old.length) ∨ (2147483648 < r ∧ r - 2147483648 < s.young.length)
theorem valid_look {s : St} {r : Nat} (h : valid s r) : ∃ c, look s r = some c := by
  unfold look
  rcases h with ⟨h1, h2⟩ | ⟨h1, h2⟩
  · rw [if_pos h1]; exact ⟨s.old[r], by simp⟩
  · rw [if_neg (by omega)]; exact ⟨s.young[r - 2147483648], by simp⟩
/-- What a thing has. -/
structure Has (s : St) (c : CP) : Prop where
  r : ∃ g l, c.rg = some g ∧ s.RS g = some l ∧ l.length = c.rn ∧ ∀ x ∈ l, valid s x
  w : ∃ g l, c.wg = some g ∧ s.WS g = some l ∧ l.length = c.wn
theorem Has.rl {s : St} {c : CP} (H : Has s c) : (rl s c).length = c.rn ∧ ∀ x ∈ Go.Proofs.Ytidkokdkldfglaa.rl s c, valid s x := by
  obtain ⟨g, l, e1, e2, e3, e4⟩ := H.r
  unfold Go.Proofs.Ytidkokdkldfglaa.rl
  rw [e1, Option.bind_some, e2]
  exact ⟨e3, e4⟩
theorem Has.wl {s : St} {c : CP} (H : Has s c) : (wl s c).length = c.wn := by
  obtain ⟨g, l, e1, e2, e3⟩ := H.w
  unfold Go.Proofs.Ytidkokdkldfglaa.wl
  rw [e1, Option.bind_some, e2]
  exact e3
structure Inv (s : St) : Prop where
  y0 : s.young[0]? = some nul
  o0 : s.old[0]? = some nul
  rt : s.roots.length = 16
  rv : ∀ r ∈ s.roots, valid s r
  ha : ∀ r c, r ≠ 0 → valid s r → look s r = some c → Has s c
  to : ∀ r c, look s r = some c → c.to = 0
  dr : ∀ r r' c c' g, look s r = some c → look s r' = some c' → c.rg = some g → c'.rg = some g → r = r'
  dw : ∀ r r' c c' g, look s r = some c → look s r' = some c' → c.wg = some g → c'.wg = some g → r = r'
  sn : ∀ k c, s.old[k]? = some c → c.seen = true → k ∈ s.refers
  sy : ∀ (k : Nat) c, s.young[k]? = some c → c.seen = false
  yg : ∀ (k : Nat) c, s.old[k]? = some c → ∀ x ∈ rl s c, 2147483648 ≤ x → c.seen = true
  rf : ∀ k ∈ s.refers, k ≠ 0 ∧ k < s.old.length
  rn : s.refers.length = sumF seenN s.old
  fr : s.fresh + 2 = wsum s.young
  us : s.used + 2 = s.fresh + wsum s.old
  ul : s.used ≤ s.limit
  ll : s.limit ≤ 16384
theorem size_two (c : CP) : 2 ≤ c.size := by unfold CP.size; omega
theorem seen_le (c : CP) : seenN c ≤ 1 := by unfold seenN; split <;> omega
theorem Inv.len {s : St} (I : Inv s) : s.young.length * 2 + s.old.length * 2 ≤ 16388 ∧ 1 ≤ s.young.length ∧ 1 ≤ s.old.length ∧ s.refers.length ≤ s.old.length ∧ s.fresh ≤ s.used := by
  have h1 := sumF_le size_two s.young
  have h2 := sumF_le size_two s.old
  have h3 := I.fr
  have h4 := I.us
  have h5 := I.ul
  have h6 := I.ll
  have h7 := (List.getElem?_eq_some_iff.1 I.y0).1
  have h8 := (List.getElem?_eq_some_iff.1 I.o0).1
  have h9 := sumF_mem (f := CP.size) I.o0
  unfold wsum at h3 h4
  have h10 : sumF seenN s.old ≤ s.old.length := by
    have : ∀ l : List CP, sumF seenN l ≤ l.length := fun l => by
      induction l with
      | nil => simp [sumF_nil]
      | cons c l ih => have := seen_le c; rw [sumF_cons, List.length_cons]; omega
    exact this _
  have h11 := I.rn
  have h12 : nul.size = 2 := rfl
  refine ⟨by omega, h7, h8, by omega, by omega⟩
theorem Inv.look0 {s : St} (I : Inv s) : look s 0 = some nul ∧ valid s 0 := by
  have := I.len
  exact ⟨by unfold look; rw [if_pos (by decide)]; exact I.o0, .inl ⟨by decide, by omega⟩⟩
theorem Inv.valid_lt {s : St} (I : Inv s) {r : Nat} (h : valid s r) : r < 4294967296 := by
  have := I.len
  rcases h with h | h <;> omega

/-! ### What it stands for -/
/-- Things by number, those that are held, words at the most. -/
structure AS where
  things : List (List Nat × List Nat)
  roots : List Nat
  limit : Nat
def Rel2 (R : Nat → Nat → Prop) (l m : List Nat) : Prop := l.length = m.length ∧ ∀ (i x y : Nat), l[i]? = some x → m[i]? = some y → R x y
theorem Rel2.get {R : Nat → Nat → Prop} {l m : List Nat} (H : Rel2 R l m) {i x : Nat} (h : l[i]? = some x) : ∃ y, m[i]? = some y ∧ R x y := by
  have hl := (List.getElem?_eq_some_iff.1 h).1
  have hm : i < m.length := by rw [← H.1]; exact hl
  exact ⟨m[i], by simp, H.2 i x _ h (by simp)⟩
theorem Rel2.get' {R : Nat → Nat → Prop} {l m : List Nat} (H : Rel2 R l m) {i y : Nat} (h : m[i]? = some y) : ∃ x, l[i]? = some x ∧ R x y := by
  have hl := (List.getElem?_eq_some_iff.1 h).1
  have hm : i < l.length := by rw [H.1]; exact hl
  exact ⟨l[i], by simp, H.2 i _ y (by simp) h⟩
theorem Rel2.set {R : Nat → Nat → Prop} {l m : List Nat} (H : Rel2 R l m) {x y : Nat} (h : R x y) (k : Nat) : Rel2 R (l.set k x) (m.set k y) := by
  refine ⟨by simpa using H.1, fun i u v hu hv => ?_⟩
  rw [List.getElem?_set] at hu hv
  split at hu
  · next e =>
    subst e
    split at hu
    · next e2 =>
      rw [if_pos rfl, if_pos (by rw [← H.1]; exact e2)] at hv
      cases hu; cases hv; exact h
    · cases hu
  · next e =>
    rw [if_neg e] at hv
    exact H.2 i u v hu hv
theorem Rel2.mono {R R' : Nat → Nat → Prop} {l m : List Nat} (H : Rel2 R l m) (h : ∀ x y, R x y → R' x y) : Rel2 R' l m := ⟨H.1, fun i x y a b => h _ _ (H.2 i x y a b)⟩
theorem Rel2.zeros {R : Nat → Nat → Prop} (h : R 0 0) (n : Nat) : Rel2 R (List.replicate n 0) (List.replicate n 0) := by
  refine ⟨rfl, fun i x y a b => ?_⟩
  rw [List.getElem?_replicate] at a b
  split at a
  · rw [if_pos (by assumption)] at b; cases a; cases b; exact h
  · cases a
structure SimR (s : St) (a : AS) (R : Nat → Nat → Prop) : Prop where
  z : R 0 0
  zz : ∀ r t, R r t → (r = 0 ↔ t = 0)
  fn : ∀ r t t', R r t → R r t' → t = t'
  inj : ∀ r r' t, R r t → R r' t → r = r'
  ok : ∀ r t, R r t → r ≠ 0 → valid s r ∧ ∃ c th, look s r = some c ∧ a.things[t]? = some th ∧ wl s c = th.2 ∧ Rel2 R (rl s c) th.1
  ro : Rel2 R s.roots a.roots
  li : s.limit = a.limit
  a0 : a.things[0]? = some ([], [])
def Sim (s : St) (a : AS) : Prop := ∃ R, SimR s a R
theorem SimR.root {s : St} {a : AS} {R : Nat → Nat → Prop} (H : SimR s a R) {r t : Nat} (h : R r t) (k : Nat) : SimR { s with roots := s.roots.set k r } { a with roots := a.roots.set k t } R :=
  ⟨H.z, H.zz, H.fn, H.inj, H.ok, H.ro.set h k, H.li, H.a0⟩
theorem Inv.root {s : St} (I : Inv s) {r : Nat} (h : valid s r) (k : Nat) : Inv { s with roots := s.roots.set k r } :=
  ⟨I.y0, I.o0, by simpa using I.rt, fun x hx => by
    rcases List.mem_or_eq_of_mem_set hx with h1 | h1
    · exact I.rv x h1
    · rw [h1]; exact h, fun r' c h0 hv hl => ⟨(I.ha r' c h0 hv hl).r, (I.ha r' c h0 hv hl).w⟩, I.to, I.dr, I.dw, I.sn, I.sy, I.yg, I.rf, I.rn, I.fr, I.us, I.ul, I.ll⟩
theorem SimR.valid {s : St} {a : AS} {R : Nat → Nat → Prop} (H : SimR s a R) (I : Inv s) {r t : Nat} (h : R r t) : Go.Proofs.Ytidkokdkldfglaa.valid s r := by
  by_cases e : r = 0
  · subst e; exact I.look0.2
  · exact (H.ok r t h e).1

/-! ### A word is set -/
theorem rl_of {s : St} {c : CP} {g : Nat} {l : List Nat} (h1 : c.rg = some g) (h2 : s.RS g = some l) : rl s c = l := by unfold rl; rw [h1, Option.bind_some, h2]; rfl
theorem wl_of {s : St} {c : CP} {g : Nat} {l : List Nat} (h1 : c.wg = some g) (h2 : s.WS g = some l) : wl s c = l := by unfold wl; rw [h1, Option.bind_some, h2]; rfl
def setW (s : St) (g : Nat) (l : List Nat) : St := { s with WS := upd s.WS g l }
def setR (s : St) (g : Nat) (l : List Nat) : St := { s with RS := upd s.RS g l }
theorem setW_law {s : St} {a : AS} {R : Nat → Nat → Prop} (I : Inv s) (H : SimR s a R) {r t : Nat} {c : CP} {th : List Nat × List Nat} {g k x : Nat} {l : List Nat} (hr : R r t) (hz : r ≠ 0) (hl : look s r = some c) (ht : a.things[t]? = some th)
    (hg : c.wg = some g) (hw : s.WS g = some l) : Inv (setW s g (l.set k x)) ∧ SimR (setW s g (l.set k x)) { a with things := a.things.set t (th.1, th.2.set k x) } R := by
  have wne : ∀ r' c', look s r' = some c' → r' ≠ r → c'.wg ≠ some g := fun r' c' h1 h2 h3 => h2 (I.dw r' r c' c g h1 hl h3 hg)
  have wl' : ∀ c', c'.wg ≠ some g → wl (setW s g (l.set k x)) c' = wl s c' := by
    intro c' hne
    unfold wl setW
    cases hc : c'.wg with
    | none => rfl
    | some g' =>
      simp only [Option.bind_some]
      rw [upd_ne (by intro e; subst e; exact hne hc)]
  refine ⟨⟨I.y0, I.o0, I.rt, I.rv, ?_, I.to, I.dr, I.dw, I.sn, I.sy, I.yg, I.rf, I.rn, I.fr, I.us, I.ul, I.ll⟩, ⟨H.z, H.zz, H.fn, H.inj, ?_, H.ro, H.li, ?_⟩⟩
  · intro r' c' h0 hv h1
    obtain ⟨a1, a2⟩ := I.ha r' c' h0 hv h1
    refine ⟨a1, ?_⟩
    obtain ⟨g', l', e1, e2, e3⟩ := a2
    by_cases e : g' = g
    · subst e
      rw [hw] at e2; cases e2
      exact ⟨g', l.set k x, e1, by show upd s.WS g' _ g' = _; exact upd_eq, by simpa using e3⟩
    · exact ⟨g', l', e1, by show upd s.WS g _ g' = _; rw [upd_ne e]; exact e2, e3⟩
  · intro r' t' h1 h0
    obtain ⟨v, c', th', b1, b2, b3, b4⟩ := H.ok r' t' h1 h0
    refine ⟨v, c', ?_⟩
    by_cases e : r' = r
    · subst e
      rw [hl] at b1; cases b1
      have := H.fn _ _ _ hr h1; subst this
      rw [ht] at b2; cases b2
      refine ⟨(th.1, th.2.set k x), hl, ?_, ?_, b4⟩
      · show (a.things.set t _)[t]? = _
        rw [List.getElem?_set, if_pos rfl, if_pos (List.getElem?_eq_some_iff.1 ht).1]
      · rw [wl_of (s := setW s g (l.set k x)) hg (show upd s.WS g (l.set k x) g = _ from upd_eq)]
        rw [wl_of hg hw] at b3
        rw [b3]
    · have : t' ≠ t := fun e2 => e (H.inj r' r t (by rw [← e2]; exact h1) hr)
      refine ⟨th', b1, ?_, ?_, b4⟩
      · show (a.things.set t _)[t']? = _
        rw [List.getElem?_set, if_neg (Ne.symm this)]; exact b2
      · rw [wl' c' (wne r' c' b1 e)]; exact b3
  · show (a.things.set t _)[0]? = _
    have : t ≠ 0 := fun e => hz ((H.zz r t hr).2 e)
    rw [List.getElem?_set, if_neg this]; exact H.a0
end Go.Proofs.Ytidkokdkldfglaa

/- The space of the program in memory. No condition. -/
import Derived.Test.YtidkokdkldfglaaVcS
import Derived.Test.YtidkokdkldfglaaVcX
import Derived.Test.YtidkokdkldfglaaVcV
namespace Go.Proofs.Ytidkokdkldfglaa
open Go.Vc
set_option maxRecDepth 100000
set_option linter.unusedSimpArgs false
set_option linter.unusedVariables false

/-- A thing of the program: the blocks of its references and words, how many; where it went; in the list of the old that refer to the young. -/
structure CP where
  rg : Option Nat
  rn : Nat
  wg : Option Nat
  wn : Nat
  to : Nat
  seen : Bool
/-- The thing that is none. -/
def nul : CP := ⟨none, 0, none, 0, 0, false⟩
def sv (g : Option Nat) (n : Nat) : Value := .slice (g.map fun b => ⟨b, 0, none⟩) n n
def CP.row (c : CP) : List Value := [.int .i64 0, .int .i64 0, .int .i64 0, sv c.rg c.rn, sv c.wg c.wn, .int .u32 (c.to : Int), .bool c.seen]
def rows : List CP → List Value
  | [] => []
  | c :: r => c.row ++ rows r
def refV (r : Nat) : Value := .int .u32 (r : Int)
def wordV (x : Nat) : Value := .int .u64 (x : Int)
def CP.size (c : CP) : Nat := 2 + c.rn + c.wn
/-- The program's space, plainly: things young and old; words taken, by the young; limits; the old that refer to the young; what is held; what is in blocks of references and of words. -/
structure St where
  young : List CP
  old : List CP
  used : Nat
  fresh : Nat
  limit : Nat
  room : Nat
  refers : List Nat
  roots : List Nat
  RS : Nat → Option (List Nat)
  WS : Nat → Option (List Nat)
/-- Where it lies. -/
structure Ph where
  S : Nat
  H : Nat
  Y : Nat
  yc : Nat
  O : Nat
  oc : Nat
  fv : Value
def upd (f : Nat → Option (List Nat)) (g : Nat) (l : List Nat) : Nat → Option (List Nat) := fun k => if k = g then some l else f k
theorem upd_eq {f : Nat → Option (List Nat)} {g : Nat} {l : List Nat} : upd f g l g = some l := by unfold upd; rw [if_pos rfl]
theorem upd_ne {f : Nat → Option (List Nat)} {g k : Nat} {l : List Nat} (h : k ≠ g) : upd f g l k = f k := by unfold upd; rw [if_neg h]
theorem row_len (c : CP) : c.row.length = 7 := rfl
theorem rows_len (l : List CP) : (rows l).length = l.length * 7 := by
  induction l with
  | nil => rfl
  | cons c r ih => simp only [rows, List.length_append, row_len, ih, List.length_cons]; omega
theorem rows_app (a b : List CP) : rows (a ++ b) = rows a ++ rows b := by
  induction a with
  | nil => rfl
  | cons c r ih => simp only [List.cons_append, rows, ih, List.append_assoc]
theorem rows_get : ∀ {l : List CP} {i j : Nat} {c : CP}, l[i]? = some c → j < 7 → (rows l)[i * 7 + j]? = c.row[j]?
  | [], i, j, c, h, _ => by simp at h
  | d :: r, 0, j, c, h, hj => by
    simp only [List.getElem?_cons_zero, Option.some.injEq] at h
    subst h
    rw [rows, Nat.zero_mul, Nat.zero_add, List.getElem?_append_left (by rw [row_len]; exact hj)]
  | d :: r, i + 1, j, c, h, hj => by
    rw [List.getElem?_cons_succ] at h
    rw [rows, List.getElem?_append_right (by rw [row_len]; omega), row_len, show (i + 1) * 7 + j - 7 = i * 7 + j by omega]
    exact rows_get h hj
theorem rows_set : ∀ {l : List CP} {i j : Nat} {c c' : CP} {v : Value}, l[i]? = some c → j < 7 → c'.row = c.row.set j v → rows (l.set i c') = (rows l).set (i * 7 + j) v
  | [], i, j, c, c', v, h, _, _ => by simp at h
  | d :: r, 0, j, c, c', v, h, hj, hc => by
    simp only [List.getElem?_cons_zero, Option.some.injEq] at h
    subst h
    rw [List.set_cons_zero, rows, rows, hc, Nat.zero_mul, Nat.zero_add, List.set_append_left _ _ (by rw [row_len]; exact hj)]
  | d :: r, i + 1, j, c, c', v, h, hj, hc => by
    rw [List.getElem?_cons_succ] at h
    rw [List.set_cons_succ, rows, rows, List.set_append_right _ _ (by rw [row_len]; omega), row_len, show (i + 1) * 7 + j - 7 = i * 7 + j by omega, rows_set h hj hc]
theorem rows_drop : ∀ (l : List CP) (i : Nat), (rows l).drop (i * 7) = rows (l.drop i)
  | l, 0 => by simp
  | [], i + 1 => by simp [rows]
  | d :: r, i + 1 => by
    rw [List.drop_succ_cons, rows, List.drop_append, row_len, List.drop_of_length_le (by rw [row_len]; omega), List.nil_append, show (i + 1) * 7 - 7 = i * 7 by omega, rows_drop r i]
theorem rows_take : ∀ (l : List CP) (i : Nat), (rows l).take (i * 7) = rows (l.take i)
  | l, 0 => by simp [rows]
  | [], i + 1 => by simp [rows]
  | d :: r, i + 1 => by
    rw [List.take_succ_cons, rows, rows, List.take_append, row_len, List.take_of_length_le (by rw [row_len]; omega), show (i + 1) * 7 - 7 = i * 7 by omega, rows_take r i]
theorem one_row (c : CP) : ∀ u ∈ c.row, oneCell u = true := by
  intro u hu
  simp only [CP.row, List.mem_cons, List.not_mem_nil, or_false] at hu
  rcases hu with rfl | rfl | rfl | rfl | rfl | rfl | rfl <;> rfl

/-- The space lies in memory. -/
structure Rep (base : Nat) (h : Heap) (p : Ph) (s : St) : Prop where
  sp : h[p.S]? = some (.cells (.pointer (some ⟨p.H, 0, none⟩) :: s.roots.map refV).toArray 54 (0, 0))
  hp : h[p.H]? = some (.cells #[.slice (some ⟨p.Y, 0, none⟩) s.young.length p.yc, .slice (some ⟨p.O, 0, none⟩) s.old.length p.oc, .int .i64 (s.used : Int), .int .i64 (s.fresh : Int), .int .i64 (s.limit : Int), .int .i64 (s.room : Int), p.fv] 70 (0, 0))
  yo : Own h base 85 7 (.slice (some ⟨p.Y, 0, none⟩) s.young.length p.yc) s.young.length (rows s.young)
  oo : Own h base 85 7 (.slice (some ⟨p.O, 0, none⟩) s.old.length p.oc) s.old.length (rows s.old)
  fo : Own h base 51 1 p.fv s.refers.length (s.refers.map refV)
  rs : ∀ g l, s.RS g = some l → base ≤ g ∧ h[g]? = some (.cells (l.map refV).toArray 51 (0, 0)) ∧ p.fv.ownBlock ≠ some g
  ws : ∀ g l, s.WS g = some l → base ≤ g ∧ h[g]? = some (.cells (l.map wordV).toArray 30 (0, 0))
  ne : p.Y ≠ p.O
  bs : base ≤ p.S ∧ base ≤ p.H
/-- The blocks that are the space's own. -/
def foot (p : Ph) (s : St) (k : Nat) : Prop := k = p.S ∨ k = p.H ∨ k = p.Y ∨ k = p.O ∨ p.fv.ownBlock = some k ∨ s.RS k ≠ none ∨ s.WS k ≠ none
theorem blk_ne {h : Heap} {a b : Nat} {c c' : Array Value} {e e' : TypeId} {z z' : Nat × Nat} (ha : h[a]? = some (.cells c e z)) (hb : h[b]? = some (.cells c' e' z')) (he : e ≠ e') : a ≠ b := by
  intro x; rw [x, hb] at ha; cases ha; exact he rfl
theorem Own.blk {h : Heap} {base : Nat} {e : TypeId} {size : Nat} {v : Value} {n : Nat} {xs : List Value} {k : Nat} (H : Own h base e size v n xs) (hk : v.ownBlock = some k) : ∃ c z, h[k]? = some (.cells c e z) ∧ base ≤ k := by
  rcases H.2 with ⟨rfl, _⟩ | ⟨g, cap, cur, fz, rfl, h2, h3, _⟩
  · simp [Value.ownBlock] at hk
  · simp [Value.ownBlock] at hk; subst hk; exact ⟨cur, fz, h3, h2⟩
/-- The type of each block. -/
theorem Rep.tag {base : Nat} {h : Heap} {p : Ph} {s : St} (R : Rep base h p s) :
    (∃ c z, h[p.S]? = some (.cells c 54 z)) ∧ (∃ c z, h[p.H]? = some (.cells c 70 z)) ∧ (∃ c z, h[p.Y]? = some (.cells c 85 z)) ∧ (∃ c z, h[p.O]? = some (.cells c 85 z)) ∧
    (∀ k, p.fv.ownBlock = some k → ∃ c z, h[k]? = some (.cells c 51 z)) ∧ (∀ k, s.RS k ≠ none → ∃ c z, h[k]? = some (.cells c 51 z)) ∧ (∀ k, s.WS k ≠ none → ∃ c z, h[k]? = some (.cells c 30 z)) := by
  refine ⟨⟨_, _, R.sp⟩, ⟨_, _, R.hp⟩, ?_, ?_, ?_, ?_, ?_⟩
  · obtain ⟨c, z, hc, _⟩ := Own.blk R.yo (k := p.Y) rfl; exact ⟨c, z, hc⟩
  · obtain ⟨c, z, hc, _⟩ := Own.blk R.oo (k := p.O) rfl; exact ⟨c, z, hc⟩
  · intro k hk; obtain ⟨c, z, hc, _⟩ := Own.blk R.fo hk; exact ⟨c, z, hc⟩
  · intro k hk
    cases hl : s.RS k with
    | none => exact absurd hl hk
    | some l => exact ⟨_, _, (R.rs k l hl).2.1⟩
  · intro k hk
    cases hl : s.WS k with
    | none => exact absurd hl hk
    | some l => exact ⟨_, _, (R.ws k l hl).2⟩
theorem Rep.lt {base : Nat} {h : Heap} {p : Ph} {s : St} (R : Rep base h p s) {k : Nat} (hk : foot p s k) : base ≤ k ∧ k < h.size := by
  have in_ : ∀ {k : Nat} {o : Obj}, h[k]? = some o → k < h.size := fun hx => (Array.getElem?_eq_some_iff.1 hx).1
  rcases hk with rfl | rfl | rfl | rfl | hk | hk | hk
  · exact ⟨R.bs.1, in_ R.sp⟩
  · exact ⟨R.bs.2, in_ R.hp⟩
  · exact R.yo.lt _ rfl
  · exact R.oo.lt _ rfl
  · exact R.fo.lt _ hk
  · cases hl : s.RS k with
    | none => exact absurd hl hk
    | some l => exact ⟨(R.rs k l hl).1, in_ (R.rs k l hl).2.1⟩
  · cases hl : s.WS k with
    | none => exact absurd hl hk
    | some l => exact ⟨(R.ws k l hl).1, in_ (R.ws k l hl).2⟩
/-- Where none of its blocks turns, it stays. -/
theorem Rep.fr {base : Nat} {h h' : Heap} {p : Ph} {s : St} {D : Nat → Prop} (R : Rep base h p s) (hf : Fr D h h') (hd : ∀ k, foot p s k → ¬ D k) : Rep base h' p s := by
  have sm : ∀ k, foot p s k → h'[k]? = h[k]? := fun k hk => hf.same k (R.lt hk).2 (hd k hk)
  refine ⟨?_, ?_, R.yo.fr hf ?_, R.oo.fr hf ?_, R.fo.fr hf ?_, ?_, ?_, R.ne, R.bs⟩
  · rw [sm _ (.inl rfl)]; exact R.sp
  · rw [sm _ (.inr (.inl rfl))]; exact R.hp
  · intro k hk; cases hk; exact hd _ (.inr (.inr (.inl rfl)))
  · intro k hk; cases hk; exact hd _ (.inr (.inr (.inr (.inl rfl))))
  · intro k hk; exact hd _ (.inr (.inr (.inr (.inr (.inl hk)))))
  · intro g l hl
    obtain ⟨h1, h2, h3⟩ := R.rs g l hl
    exact ⟨h1, by rw [sm g (.inr (.inr (.inr (.inr (.inr (.inl (by rw [hl]; simp)))))))]; exact h2, h3⟩
  · intro g l hl
    obtain ⟨h1, h2⟩ := R.ws g l hl
    exact ⟨h1, by rw [sm g (.inr (.inr (.inr (.inr (.inr (.inr (by rw [hl]; simp)))))))]; exact h2⟩
theorem Rep.ext {base : Nat} {h h' : Heap} {p : Ph} {s : St} (R : Rep base h p s) (hf : Ext h h') : Rep base h' p s := R.fr hf fun _ _ => id
/-- What a call does to a space: it lies there still; only its own blocks turn, and what is new. -/
structure Stp (base : Nat) (h h' : Heap) (p p' : Ph) (s s' : St) : Prop where
  rep : Rep base h' p' s'
  fr : Fr (foot p s) h h'
  nw : ∀ k, foot p' s' k → foot p s k ∨ h.size ≤ k
theorem Stp.refl {base : Nat} {h : Heap} {p : Ph} {s : St} (R : Rep base h p s) : Stp base h h p p s s := ⟨R, Fr.refl _ _, fun _ hk => .inl hk⟩
theorem Stp.trans {base : Nat} {h h' h'' : Heap} {p p' p'' : Ph} {s s' s'' : St} (A : Stp base h h' p p' s s') (B : Stp base h' h'' p' p'' s' s'') : Stp base h h'' p p'' s s'' := by
  refine ⟨B.rep, Fr.trans A.fr B.fr (fun _ _ h => h) fun k hk hp => ?_, fun k hk => ?_⟩
  · rcases A.nw k hp with h1 | h1
    · exact h1
    · omega
  · rcases B.nw k hk with h1 | h1
    · exact A.nw k h1
    · exact .inr (Nat.le_trans A.fr.size h1)
theorem Stp.ext {base : Nat} {h h' h'' : Heap} {p p' : Ph} {s s' : St} (A : Stp base h h' p p' s s') (B : Ext h' h'') : Stp base h h'' p p' s s' :=
  ⟨A.rep.ext B, Fr.trans A.fr B (fun _ _ h => h) (fun _ _ h => h.elim), A.nw⟩
theorem Stp.pre {base : Nat} {h h' h'' : Heap} {p p' : Ph} {s s' : St} (B : Ext h h') (A : Stp base h' h'' p p' s s') : Stp base h h'' p p' s s' :=
  ⟨A.rep, Fr.trans B A.fr (fun _ _ h => h.elim) (fun _ _ h => h), fun k hk => (A.nw k hk).imp id fun x => Nat.le_trans B.size x⟩
end Go.Proofs.Ytidkokdkldfglaa

/- The forms of instructions, by the program and by the reference. -/
import Derived.Test.YtgdmoimclelfhaaDoorNA
import Derived.Test.YtgdmoimclelfhaaDoorCx
namespace Go.Proofs.YtgdmoimclelfhaaDoor
open Go.Vc
set_option maxRecDepth 100000
set_option linter.unusedSimpArgs false
set_option linter.unusedVariables false

def formS (op : Nat) : Nat :=
  if op ≤ 15 then 0
  else if op ≤ 16 then 2
  else if op ≤ 17 then 3
  else if op ≤ 18 then 4
  else if op ≤ 19 then 5
  else if op ≤ 20 then 5
  else if op ≤ 25 then 6
  else if op ≤ 53 then 0
  else if op ≤ 58 then 6
  else if op ≤ 131 then 0
  else if op ≤ 132 then 7
  else if op ≤ 152 then 0
  else if op ≤ 167 then 8
  else if op ≤ 168 then 1
  else if op ≤ 169 then 1
  else if op ≤ 170 then 10
  else if op ≤ 171 then 11
  else if op ≤ 177 then 0
  else if op ≤ 184 then 5
  else if op ≤ 185 then 12
  else if op ≤ 186 then 1
  else if op ≤ 187 then 5
  else if op ≤ 188 then 13
  else if op ≤ 189 then 5
  else if op ≤ 191 then 0
  else if op ≤ 192 then 5
  else if op ≤ 193 then 5
  else if op ≤ 195 then 0
  else if op ≤ 196 then 15
  else if op ≤ 197 then 14
  else if op ≤ 198 then 8
  else if op ≤ 199 then 8
  else if op ≤ 200 then 9
  else if op ≤ 255 then 1
  else 1
set_option maxHeartbeats 8000000 in
theorem form_any (op : Nat) (hop : op < 256) (h : Heap) : HCalls Tryd.prog 14 #[.int .u8 op] h fun v h' => h' = h ∧ v = .int .i64 (formS op) := by
  refine C.code_form_calls (args := [.int .u8 op]) rfl ?_
  by_cases p0 : op ≤ 15
  case pos =>
    have e16 : ¬ (op : Int) = 16 := by omega
    have e17 : ¬ (op : Int) = 17 := by omega
    have e18 : ¬ (op : Int) = 18 := by omega
    have e19 : ¬ (op : Int) = 19 := by omega
    have e20 : ¬ (op : Int) = 20 := by omega
    have e187 : ¬ (op : Int) = 187 := by omega
    have e189 : ¬ (op : Int) = 189 := by omega
    have e192 : ¬ (op : Int) = 192 := by omega
    have e193 : ¬ (op : Int) = 193 := by omega
    have e132 : ¬ (op : Int) = 132 := by omega
    have e198 : ¬ (op : Int) = 198 := by omega
    have e199 : ¬ (op : Int) = 199 := by omega
    have e200 : ¬ (op : Int) = 200 := by omega
    have e170 : ¬ (op : Int) = 170 := by omega
    have e171 : ¬ (op : Int) = 171 := by omega
    have e185 : ¬ (op : Int) = 185 := by omega
    have e188 : ¬ (op : Int) = 188 := by omega
    have e197 : ¬ (op : Int) = 197 := by omega
    have e196 : ¬ (op : Int) = 196 := by omega
    have e168 : ¬ (op : Int) = 168 := by omega
    have e169 : ¬ (op : Int) = 169 := by omega
    have e186 : ¬ (op : Int) = 186 := by omega
    have c0 : ¬ (178 : Int) ≤ (op : Int) := by omega
    have c1 : (op : Int) ≤ 184 := by omega
    have c2 : ¬ (21 : Int) ≤ (op : Int) := by omega
    have c3 : (op : Int) ≤ 25 := by omega
    have c4 : ¬ (54 : Int) ≤ (op : Int) := by omega
    have c5 : (op : Int) ≤ 58 := by omega
    have c6 : ¬ (153 : Int) ≤ (op : Int) := by omega
    have c7 : (op : Int) ≤ 167 := by omega
    have c8 : ¬ (200 : Int) < (op : Int) := by omega
    have hf : formS op = 0 := by simp only [formS, p0, if_true, if_false]
    rw [hf]
    simp (disch := first | omega | assumption) only [C.code_form_gos, T.tv, ↓reduceIte, Nat.reduceEqDiff, reduceCtorEq, Nat.reduceLeDiff, Nat.reducePow, Int.reducePow, Int.reduceToNat, Nat.reduceAdd, eq_false e16, eq_false e17, eq_false e18, eq_false e19, eq_false e20, eq_false e187, eq_false e189, eq_false e192, eq_false e193, eq_false e132, eq_false e198, eq_false e199, eq_false e200, eq_false e170, eq_false e171, eq_false e185, eq_false e188, eq_false e197, eq_false e196, eq_false e168, eq_false e169, eq_false e186, c0, c1, c2, c3, c4, c5, c6, c7, c8, decide_true, decide_false]
    try rfl
  by_cases p1 : op ≤ 16
  case pos =>
    have e16 : (op : Int) = 16 := by omega
    have e17 : ¬ (op : Int) = 17 := by omega
    have e18 : ¬ (op : Int) = 18 := by omega
    have e19 : ¬ (op : Int) = 19 := by omega
    have e20 : ¬ (op : Int) = 20 := by omega
    have e187 : ¬ (op : Int) = 187 := by omega
    have e189 : ¬ (op : Int) = 189 := by omega
    have e192 : ¬ (op : Int) = 192 := by omega
    have e193 : ¬ (op : Int) = 193 := by omega
    have e132 : ¬ (op : Int) = 132 := by omega
    have e198 : ¬ (op : Int) = 198 := by omega
    have e199 : ¬ (op : Int) = 199 := by omega
    have e200 : ¬ (op : Int) = 200 := by omega
    have e170 : ¬ (op : Int) = 170 := by omega
    have e171 : ¬ (op : Int) = 171 := by omega
    have e185 : ¬ (op : Int) = 185 := by omega
    have e188 : ¬ (op : Int) = 188 := by omega
    have e197 : ¬ (op : Int) = 197 := by omega
    have e196 : ¬ (op : Int) = 196 := by omega
    have e168 : ¬ (op : Int) = 168 := by omega
    have e169 : ¬ (op : Int) = 169 := by omega
    have e186 : ¬ (op : Int) = 186 := by omega
    have c0 : ¬ (178 : Int) ≤ (op : Int) := by omega
    have c1 : (op : Int) ≤ 184 := by omega
    have c2 : ¬ (21 : Int) ≤ (op : Int) := by omega
    have c3 : (op : Int) ≤ 25 := by omega
    have c4 : ¬ (54 : Int) ≤ (op : Int) := by omega
    have c5 : (op : Int) ≤ 58 := by omega
    have c6 : ¬ (153 : Int) ≤ (op : Int) := by omega
    have c7 : (op : Int) ≤ 167 := by omega
    have c8 : ¬ (200 : Int) < (op : Int) := by omega
    have hf : formS op = 2 := by simp only [formS, p0, p1, if_true, if_false]
    rw [hf]
    simp (disch := first | omega | assumption) only [C.code_form_gos, T.tv, ↓reduceIte, Nat.reduceEqDiff, reduceCtorEq, Nat.reduceLeDiff, Nat.reducePow, Int.reducePow, Int.reduceToNat, Nat.reduceAdd, eq_true e16, eq_false e17, eq_false e18, eq_false e19, eq_false e20, eq_false e187, eq_false e189, eq_false e192, eq_false e193, eq_false e132, eq_false e198, eq_false e199, eq_false e200, eq_false e170, eq_false e171, eq_false e185, eq_false e188, eq_false e197, eq_false e196, eq_false e168, eq_false e169, eq_false e186, c0, c1, c2, c3, c4, c5, c6, c7, c8, decide_true, decide_false]
    try rfl
  by_cases p2 : op ≤ 17
  case pos =>
    have e16 : ¬ (op : Int) = 16 := by omega
    have e17 : (op : Int) = 17 := by omega
    have e18 : ¬ (op : Int) = 18 := by omega
    have e19 : ¬ (op : Int) = 19 := by omega
    have e20 : ¬ (op : Int) = 20 := by omega
    have e187 : ¬ (op : Int) = 187 := by omega
    have e189 : ¬ (op : Int) = 189 := by omega
    have e192 : ¬ (op : Int) = 192 := by omega
    have e193 : ¬ (op : Int) = 193 := by omega
    have e132 : ¬ (op : Int) = 132 := by omega
    have e198 : ¬ (op : Int) = 198 := by omega
    have e199 : ¬ (op : Int) = 199 := by omega
    have e200 : ¬ (op : Int) = 200 := by omega
    have e170 : ¬ (op : Int) = 170 := by omega
    have e171 : ¬ (op : Int) = 171 := by omega
    have e185 : ¬ (op : Int) = 185 := by omega
    have e188 : ¬ (op : Int) = 188 := by omega
    have e197 : ¬ (op : Int) = 197 := by omega
    have e196 : ¬ (op : Int) = 196 := by omega
    have e168 : ¬ (op : Int) = 168 := by omega
    have e169 : ¬ (op : Int) = 169 := by omega
    have e186 : ¬ (op : Int) = 186 := by omega
    have c0 : ¬ (178 : Int) ≤ (op : Int) := by omega
    have c1 : (op : Int) ≤ 184 := by omega
    have c2 : ¬ (21 : Int) ≤ (op : Int) := by omega
    have c3 : (op : Int) ≤ 25 := by omega
    have c4 : ¬ (54 : Int) ≤ (op : Int) := by omega
    have c5 : (op : Int) ≤ 58 := by omega
    have c6 : ¬ (153 : Int) ≤ (op : Int) := by omega
    have c7 : (op : Int) ≤ 167 := by omega
    have c8 : ¬ (200 : Int) < (op : Int) := by omega
    have hf : formS op = 3 := by simp only [formS, p0, p1, p2, if_true, if_false]
    rw [hf]
    simp (disch := first | omega | assumption) only [C.code_form_gos, T.tv, ↓reduceIte, Nat.reduceEqDiff, reduceCtorEq, Nat.reduceLeDiff, Nat.reducePow, Int.reducePow, Int.reduceToNat, Nat.reduceAdd, eq_false e16, eq_true e17, eq_false e18, eq_false e19, eq_false e20, eq_false e187, eq_false e189, eq_false e192, eq_false e193, eq_false e132, eq_false e198, eq_false e199, eq_false e200, eq_false e170, eq_false e171, eq_false e185, eq_false e188, eq_false e197, eq_false e196, eq_false e168, eq_false e169, eq_false e186, c0, c1, c2, c3, c4, c5, c6, c7, c8, decide_true, decide_false]
    try rfl
  by_cases p3 : op ≤ 18
  case pos =>
    have e16 : ¬ (op : Int) = 16 := by omega
    have e17 : ¬ (op : Int) = 17 := by omega
    have e18 : (op : Int) = 18 := by omega
    have e19 : ¬ (op : Int) = 19 := by omega
    have e20 : ¬ (op : Int) = 20 := by omega
    have e187 : ¬ (op : Int) = 187 := by omega
    have e189 : ¬ (op : Int) = 189 := by omega
    have e192 : ¬ (op : Int) = 192 := by omega
    have e193 : ¬ (op : Int) = 193 := by omega
    have e132 : ¬ (op : Int) = 132 := by omega
    have e198 : ¬ (op : Int) = 198 := by omega
    have e199 : ¬ (op : Int) = 199 := by omega
    have e200 : ¬ (op : Int) = 200 := by omega
    have e170 : ¬ (op : Int) = 170 := by omega
    have e171 : ¬ (op : Int) = 171 := by omega
    have e185 : ¬ (op : Int) = 185 := by omega
    have e188 : ¬ (op : Int) = 188 := by omega
    have e197 : ¬ (op : Int) = 197 := by omega
    have e196 : ¬ (op : Int) = 196 := by omega
    have e168 : ¬ (op : Int) = 168 := by omega
    have e169 : ¬ (op : Int) = 169 := by omega
    have e186 : ¬ (op : Int) = 186 := by omega
    have c0 : ¬ (178 : Int) ≤ (op : Int) := by omega
    have c1 : (op : Int) ≤ 184 := by omega
    have c2 : ¬ (21 : Int) ≤ (op : Int) := by omega
    have c3 : (op : Int) ≤ 25 := by omega
    have c4 : ¬ (54 : Int) ≤ (op : Int) := by omega
    have c5 : (op : Int) ≤ 58 := by omega
    have c6 : ¬ (153 : Int) ≤ (op : Int) := by omega
    have c7 : (op : Int) ≤ 167 := by omega
    have c8 : ¬ (200 : Int) < (op : Int) := by omega
    have hf : formS op = 4 := by simp only [formS, p0, p1, p2, p3, if_true, if_false]
    rw [hf]
    simp (disch := first | omega | assumption) only [C.code_form_gos, T.tv, ↓reduceIte, Nat.reduceEqDiff, reduceCtorEq, Nat.reduceLeDiff, Nat.reducePow, Int.reducePow, Int.reduceToNat, Nat.reduceAdd, eq_false e16, eq_false e17, eq_true e18, eq_false e19, eq_false e20, eq_false e187, eq_false e189, eq_false e192, eq_false e193, eq_false e132, eq_false e198, eq_false e199, eq_false e200, eq_false e170, eq_false e171, eq_false e185, eq_false e188, eq_false e197, eq_false e196, eq_false e168, eq_false e169, eq_false e186, c0, c1, c2, c3, c4, c5, c6, c7, c8, decide_true, decide_false]
    try rfl
  by_cases p4 : op ≤ 19
  case pos =>
    have e16 : ¬ (op : Int) = 16 := by omega
    have e17 : ¬ (op : Int) = 17 := by omega
    have e18 : ¬ (op : Int) = 18 := by omega
    have e19 : (op : Int) = 19 := by omega
    have e20 : ¬ (op : Int) = 20 := by omega
    have e187 : ¬ (op : Int) = 187 := by omega
    have e189 : ¬ (op : Int) = 189 := by omega
    have e192 : ¬ (op : Int) = 192 := by omega
    have e193 : ¬ (op : Int) = 193 := by omega
    have e132 : ¬ (op : Int) = 132 := by omega
    have e198 : ¬ (op : Int) = 198 := by omega
    have e199 : ¬ (op : Int) = 199 := by omega
    have e200 : ¬ (op : Int) = 200 := by omega
    have e170 : ¬ (op : Int) = 170 := by omega
    have e171 : ¬ (op : Int) = 171 := by omega
    have e185 : ¬ (op : Int) = 185 := by omega
    have e188 : ¬ (op : Int) = 188 := by omega
    have e197 : ¬ (op : Int) = 197 := by omega
    have e196 : ¬ (op : Int) = 196 := by omega
    have e168 : ¬ (op : Int) = 168 := by omega
    have e169 : ¬ (op : Int) = 169 := by omega
    have e186 : ¬ (op : Int) = 186 := by omega
    have c0 : ¬ (178 : Int) ≤ (op : Int) := by omega
    have c1 : (op : Int) ≤ 184 := by omega
    have c2 : ¬ (21 : Int) ≤ (op : Int) := by omega
    have c3 : (op : Int) ≤ 25 := by omega
    have c4 : ¬ (54 : Int) ≤ (op : Int) := by omega
    have c5 : (op : Int) ≤ 58 := by omega
    have c6 : ¬ (153 : Int) ≤ (op : Int) := by omega
    have c7 : (op : Int) ≤ 167 := by omega
    have c8 : ¬ (200 : Int) < (op : Int) := by omega
    have hf : formS op = 5 := by simp only [formS, p0, p1, p2, p3, p4, if_true, if_false]
    rw [hf]
    simp (disch := first | omega | assumption) only [C.code_form_gos, T.tv, ↓reduceIte, Nat.reduceEqDiff, reduceCtorEq, Nat.reduceLeDiff, Nat.reducePow, Int.reducePow, Int.reduceToNat, Nat.reduceAdd, eq_false e16, eq_false e17, eq_false e18, eq_true e19, eq_false e20, eq_false e187, eq_false e189, eq_false e192, eq_false e193, eq_false e132, eq_false e198, eq_false e199, eq_false e200, eq_false e170, eq_false e171, eq_false e185, eq_false e188, eq_false e197, eq_false e196, eq_false e168, eq_false e169, eq_false e186, c0, c1, c2, c3, c4, c5, c6, c7, c8, decide_true, decide_false]
    try rfl
  by_cases p5 : op ≤ 20
  case pos =>
    have e16 : ¬ (op : Int) = 16 := by omega
    have e17 : ¬ (op : Int) = 17 := by omega
    have e18 : ¬ (op : Int) = 18 := by omega
    have e19 : ¬ (op : Int) = 19 := by omega
    have e20 : (op : Int) = 20 := by omega
    have e187 : ¬ (op : Int) = 187 := by omega
    have e189 : ¬ (op : Int) = 189 := by omega
    have e192 : ¬ (op : Int) = 192 := by omega
    have e193 : ¬ (op : Int) = 193 := by omega
    have e132 : ¬ (op : Int) = 132 := by omega
    have e198 : ¬ (op : Int) = 198 := by omega
    have e199 : ¬ (op : Int) = 199 := by omega
    have e200 : ¬ (op : Int) = 200 := by omega
    have e170 : ¬ (op : Int) = 170 := by omega
    have e171 : ¬ (op : Int) = 171 := by omega
    have e185 : ¬ (op : Int) = 185 := by omega
    have e188 : ¬ (op : Int) = 188 := by omega
    have e197 : ¬ (op : Int) = 197 := by omega
    have e196 : ¬ (op : Int) = 196 := by omega
    have e168 : ¬ (op : Int) = 168 := by omega
    have e169 : ¬ (op : Int) = 169 := by omega
    have e186 : ¬ (op : Int) = 186 := by omega
    have c0 : ¬ (178 : Int) ≤ (op : Int) := by omega
    have c1 : (op : Int) ≤ 184 := by omega
    have c2 : ¬ (21 : Int) ≤ (op : Int) := by omega
    have c3 : (op : Int) ≤ 25 := by omega
    have c4 : ¬ (54 : Int) ≤ (op : Int) := by omega
    have c5 : (op : Int) ≤ 58 := by omega
    have c6 : ¬ (153 : Int) ≤ (op : Int) := by omega
    have c7 : (op : Int) ≤ 167 := by omega
    have c8 : ¬ (200 : Int) < (op : Int) := by omega
    have hf : formS op = 5 := by simp only [formS, p0, p1, p2, p3, p4, p5, if_true, if_false]
    rw [hf]
    simp (disch := first | omega | assumption) only [C.code_form_gos, T.tv, ↓reduceIte, Nat.reduceEqDiff, reduceCtorEq, Nat.reduceLeDiff, Nat.reducePow, Int.reducePow, Int.reduceToNat, Nat.reduceAdd, eq_false e16, eq_false e17, eq_false e18, eq_false e19, eq_true e20, eq_false e187, eq_false e189, eq_false e192, eq_false e193, eq_false e132, eq_false e198, eq_false e199, eq_false e200, eq_false e170, eq_false e171, eq_false e185, eq_false e188, eq_false e197, eq_false e196, eq_false e168, eq_false e169, eq_false e186, c0, c1, c2, c3, c4, c5, c6, c7, c8, decide_true, decide_false]
    try rfl
  by_cases p6 : op ≤ 25
  case pos =>
    have e16 : ¬ (op : Int) = 16 := by omega
    have e17 : ¬ (op : Int) = 17 := by omega
    have e18 : ¬ (op : Int) = 18 := by omega
    have e19 : ¬ (op : Int) = 19 := by omega
    have e20 : ¬ (op : Int) = 20 := by omega
    have e187 : ¬ (op : Int) = 187 := by omega
    have e189 : ¬ (op : Int) = 189 := by omega
    have e192 : ¬ (op : Int) = 192 := by omega
    have e193 : ¬ (op : Int) = 193 := by omega
    have e132 : ¬ (op : Int) = 132 := by omega
    have e198 : ¬ (op : Int) = 198 := by omega
    have e199 : ¬ (op : Int) = 199 := by omega
    have e200 : ¬ (op : Int) = 200 := by omega
    have e170 : ¬ (op : Int) = 170 := by omega
    have e171 : ¬ (op : Int) = 171 := by omega
    have e185 : ¬ (op : Int) = 185 := by omega
    have e188 : ¬ (op : Int) = 188 := by omega
    have e197 : ¬ (op : Int) = 197 := by omega
    have e196 : ¬ (op : Int) = 196 := by omega
    have e168 : ¬ (op : Int) = 168 := by omega
    have e169 : ¬ (op : Int) = 169 := by omega
    have e186 : ¬ (op : Int) = 186 := by omega
    have c0 : ¬ (178 : Int) ≤ (op : Int) := by omega
    have c1 : (op : Int) ≤ 184 := by omega
    have c2 : (21 : Int) ≤ (op : Int) := by omega
    have c3 : (op : Int) ≤ 25 := by omega
    have c4 : ¬ (54 : Int) ≤ (op : Int) := by omega
    have c5 : (op : Int) ≤ 58 := by omega
    have c6 : ¬ (153 : Int) ≤ (op : Int) := by omega
    have c7 : (op : Int) ≤ 167 := by omega
    have c8 : ¬ (200 : Int) < (op : Int) := by omega
    have hf : formS op = 6 := by simp only [formS, p0, p1, p2, p3, p4, p5, p6, if_true, if_false]
    rw [hf]
    simp (disch := first | omega | assumption) only [C.code_form_gos, T.tv, ↓reduceIte, Nat.reduceEqDiff, reduceCtorEq, Nat.reduceLeDiff, Nat.reducePow, Int.reducePow, Int.reduceToNat, Nat.reduceAdd, eq_false e16, eq_false e17, eq_false e18, eq_false e19, eq_false e20, eq_false e187, eq_false e189, eq_false e192, eq_false e193, eq_false e132, eq_false e198, eq_false e199, eq_false e200, eq_false e170, eq_false e171, eq_false e185, eq_false e188, eq_false e197, eq_false e196, eq_false e168, eq_false e169, eq_false e186, c0, c1, c2, c3, c4, c5, c6, c7, c8, decide_true, decide_false]
    try rfl
  by_cases p7 : op ≤ 53
  case pos =>
    have e16 : ¬ (op : Int) = 16 := by omega
    have e17 : ¬ (op : Int) = 17 := by omega
    have e18 : ¬ (op : Int) = 18 := by omega
    have e19 : ¬ (op : Int) = 19 := by omega
    have e20 : ¬ (op : Int) = 20 := by omega
    have e187 : ¬ (op : Int) = 187 := by omega
    have e189 : ¬ (op : Int) = 189 := by omega
    have e192 : ¬ (op : Int) = 192 := by omega
    have e193 : ¬ (op : Int) = 193 := by omega
    have e132 : ¬ (op : Int) = 132 := by omega
    have e198 : ¬ (op : Int) = 198 := by omega
    have e199 : ¬ (op : Int) = 199 := by omega
    have e200 : ¬ (op : Int) = 200 := by omega
    have e170 : ¬ (op : Int) = 170 := by omega
    have e171 : ¬ (op : Int) = 171 := by omega
    have e185 : ¬ (op : Int) = 185 := by omega
    have e188 : ¬ (op : Int) = 188 := by omega
    have e197 : ¬ (op : Int) = 197 := by omega
    have e196 : ¬ (op : Int) = 196 := by omega
    have e168 : ¬ (op : Int) = 168 := by omega
    have e169 : ¬ (op : Int) = 169 := by omega
    have e186 : ¬ (op : Int) = 186 := by omega
    have c0 : ¬ (178 : Int) ≤ (op : Int) := by omega
    have c1 : (op : Int) ≤ 184 := by omega
    have c2 : (21 : Int) ≤ (op : Int) := by omega
    have c3 : ¬ (op : Int) ≤ 25 := by omega
    have c4 : ¬ (54 : Int) ≤ (op : Int) := by omega
    have c5 : (op : Int) ≤ 58 := by omega
    have c6 : ¬ (153 : Int) ≤ (op : Int) := by omega
    have c7 : (op : Int) ≤ 167 := by omega
    have c8 : ¬ (200 : Int) < (op : Int) := by omega
    have hf : formS op = 0 := by simp only [formS, p0, p1, p2, p3, p4, p5, p6, p7, if_true, if_false]
    rw [hf]
    simp (disch := first | omega | assumption) only [C.code_form_gos, T.tv, ↓reduceIte, Nat.reduceEqDiff, reduceCtorEq, Nat.reduceLeDiff, Nat.reducePow, Int.reducePow, Int.reduceToNat, Nat.reduceAdd, eq_false e16, eq_false e17, eq_false e18, eq_false e19, eq_false e20, eq_false e187, eq_false e189, eq_false e192, eq_false e193, eq_false e132, eq_false e198, eq_false e199, eq_false e200, eq_false e170, eq_false e171, eq_false e185, eq_false e188, eq_false e197, eq_false e196, eq_false e168, eq_false e169, eq_false e186, c0, c1, c2, c3, c4, c5, c6, c7, c8, decide_true, decide_false]
    try rfl
  by_cases p8 : op ≤ 58
  case pos =>
    have e16 : ¬ (op : Int) = 16 := by omega
    have e17 : ¬ (op : Int) = 17 := by omega
    have e18 : ¬ (op : Int) = 18 := by omega
    have e19 : ¬ (op : Int) = 19 := by omega
    have e20 : ¬ (op : Int) = 20 := by omega
    have e187 : ¬ (op : Int) = 187 := by omega
    have e189 : ¬ (op : Int) = 189 := by omega
    have e192 : ¬ (op : Int) = 192 := by omega
    have e193 : ¬ (op : Int) = 193 := by omega
    have e132 : ¬ (op : Int) = 132 := by omega
    have e198 : ¬ (op : Int) = 198 := by omega
    have e199 : ¬ (op : Int) = 199 := by omega
    have e200 : ¬ (op : Int) = 200 := by omega
    have e170 : ¬ (op : Int) = 170 := by omega
    have e171 : ¬ (op : Int) = 171 := by omega
    have e185 : ¬ (op : Int) = 185 := by omega
    have e188 : ¬ (op : Int) = 188 := by omega
    have e197 : ¬ (op : Int) = 197 := by omega
    have e196 : ¬ (op : Int) = 196 := by omega
    have e168 : ¬ (op : Int) = 168 := by omega
    have e169 : ¬ (op : Int) = 169 := by omega
    have e186 : ¬ (op : Int) = 186 := by omega
    have c0 : ¬ (178 : Int) ≤ (op : Int) := by omega
    have c1 : (op : Int) ≤ 184 := by omega
    have c2 : (21 : Int) ≤ (op : Int) := by omega
    have c3 : ¬ (op : Int) ≤ 25 := by omega
    have c4 : (54 : Int) ≤ (op : Int) := by omega
    have c5 : (op : Int) ≤ 58 := by omega
    have c6 : ¬ (153 : Int) ≤ (op : Int) := by omega
    have c7 : (op : Int) ≤ 167 := by omega
    have c8 : ¬ (200 : Int) < (op : Int) := by omega
    have hf : formS op = 6 := by simp only [formS, p0, p1, p2, p3, p4, p5, p6, p7, p8, if_true, if_false]
    rw [hf]
    simp (disch := first | omega | assumption) only [C.code_form_gos, T.tv, ↓reduceIte, Nat.reduceEqDiff, reduceCtorEq, Nat.reduceLeDiff, Nat.reducePow, Int.reducePow, Int.reduceToNat, Nat.reduceAdd, eq_false e16, eq_false e17, eq_false e18, eq_false e19, eq_false e20, eq_false e187, eq_false e189, eq_false e192, eq_false e193, eq_false e132, eq_false e198, eq_false e199, eq_false e200, eq_false e170, eq_false e171, eq_false e185, eq_false e188, eq_false e197, eq_false e196, eq_false e168, eq_false e169, eq_false e186, c0, c1, c2, c3, c4, c5, c6, c7, c8, decide_true, decide_false]
    try rfl
  by_cases p9 : op ≤ 131
  case pos =>
    have e16 : ¬ (op : Int) = 16 := by omega
    have e17 : ¬ (op : Int) = 17 := by omega
    have e18 : ¬ (op : Int) = 18 := by omega
    have e19 : ¬ (op : Int) = 19 := by omega
    have e20 : ¬ (op : Int) = 20 := by omega
    have e187 : ¬ (op : Int) = 187 := by omega
    have e189 : ¬ (op : Int) = 189 := by omega
    have e192 : ¬ (op : Int) = 192 := by omega
    have e193 : ¬ (op : Int) = 193 := by omega
    have e132 : ¬ (op : Int) = 132 := by omega
    have e198 : ¬ (op : Int) = 198 := by omega
    have e199 : ¬ (op : Int) = 199 := by omega
    have e200 : ¬ (op : Int) = 200 := by omega
    have e170 : ¬ (op : Int) = 170 := by omega
    have e171 : ¬ (op : Int) = 171 := by omega
    have e185 : ¬ (op : Int) = 185 := by omega
    have e188 : ¬ (op : Int) = 188 := by omega
    have e197 : ¬ (op : Int) = 197 := by omega
    have e196 : ¬ (op : Int) = 196 := by omega
    have e168 : ¬ (op : Int) = 168 := by omega
    have e169 : ¬ (op : Int) = 169 := by omega
    have e186 : ¬ (op : Int) = 186 := by omega
    have c0 : ¬ (178 : Int) ≤ (op : Int) := by omega
    have c1 : (op : Int) ≤ 184 := by omega
    have c2 : (21 : Int) ≤ (op : Int) := by omega
    have c3 : ¬ (op : Int) ≤ 25 := by omega
    have c4 : (54 : Int) ≤ (op : Int) := by omega
    have c5 : ¬ (op : Int) ≤ 58 := by omega
    have c6 : ¬ (153 : Int) ≤ (op : Int) := by omega
    have c7 : (op : Int) ≤ 167 := by omega
    have c8 : ¬ (200 : Int) < (op : Int) := by omega
    have hf : formS op = 0 := by simp only [formS, p0, p1, p2, p3, p4, p5, p6, p7, p8, p9, if_true, if_false]
    rw [hf]
    simp (disch := first | omega | assumption) only [C.code_form_gos, T.tv, ↓reduceIte, Nat.reduceEqDiff, reduceCtorEq, Nat.reduceLeDiff, Nat.reducePow, Int.reducePow, Int.reduceToNat, Nat.reduceAdd, eq_false e16, eq_false e17, eq_false e18, eq_false e19, eq_false e20, eq_false e187, eq_false e189, eq_false e192, eq_false e193, eq_false e132, eq_false e198, eq_false e199, eq_false e200, eq_false e170, eq_false e171, eq_false e185, eq_false e188, eq_false e197, eq_false e196, eq_false e168, eq_false e169, eq_false e186, c0, c1, c2, c3, c4, c5, c6, c7, c8, decide_true, decide_false]
    try rfl
  by_cases p10 : op ≤ 132
  case pos =>
    have e16 : ¬ (op : Int) = 16 := by omega
    have e17 : ¬ (op : Int) = 17 := by omega
    have e18 : ¬ (op : Int) = 18 := by omega
    have e19 : ¬ (op : Int) = 19 := by omega
    have e20 : ¬ (op : Int) = 20 := by omega
    have e187 : ¬ (op : Int) = 187 := by omega
    have e189 : ¬ (op : Int) = 189 := by omega
    have e192 : ¬ (op : Int) = 192 := by omega
    have e193 : ¬ (op : Int) = 193 := by omega
    have e132 : (op : Int) = 132 := by omega
    have e198 : ¬ (op : Int) = 198 := by omega
    have e199 : ¬ (op : Int) = 199 := by omega
    have e200 : ¬ (op : Int) = 200 := by omega
    have e170 : ¬ (op : Int) = 170 := by omega
    have e171 : ¬ (op : Int) = 171 := by omega
    have e185 : ¬ (op : Int) = 185 := by omega
    have e188 : ¬ (op : Int) = 188 := by omega
    have e197 : ¬ (op : Int) = 197 := by omega
    have e196 : ¬ (op : Int) = 196 := by omega
    have e168 : ¬ (op : Int) = 168 := by omega
    have e169 : ¬ (op : Int) = 169 := by omega
    have e186 : ¬ (op : Int) = 186 := by omega
    have c0 : ¬ (178 : Int) ≤ (op : Int) := by omega
    have c1 : (op : Int) ≤ 184 := by omega
    have c2 : (21 : Int) ≤ (op : Int) := by omega
    have c3 : ¬ (op : Int) ≤ 25 := by omega
    have c4 : (54 : Int) ≤ (op : Int) := by omega
    have c5 : ¬ (op : Int) ≤ 58 := by omega
    have c6 : ¬ (153 : Int) ≤ (op : Int) := by omega
    have c7 : (op : Int) ≤ 167 := by omega
    have c8 : ¬ (200 : Int) < (op : Int) := by omega
    have hf : formS op = 7 := by simp only [formS, p0, p1, p2, p3, p4, p5, p6, p7, p8, p9, p10, if_true, if_false]
    rw [hf]
    simp (disch := first | omega | assumption) only [C.code_form_gos, T.tv, ↓reduceIte, Nat.reduceEqDiff, reduceCtorEq, Nat.reduceLeDiff, Nat.reducePow, Int.reducePow, Int.reduceToNat, Nat.reduceAdd, eq_false e16, eq_false e17, eq_false e18, eq_false e19, eq_false e20, eq_false e187, eq_false e189, eq_false e192, eq_false e193, eq_true e132, eq_false e198, eq_false e199, eq_false e200, eq_false e170, eq_false e171, eq_false e185, eq_false e188, eq_false e197, eq_false e196, eq_false e168, eq_false e169, eq_false e186, c0, c1, c2, c3, c4, c5, c6, c7, c8, decide_true, decide_false]
    try rfl
  by_cases p11 : op ≤ 152
  case pos =>
    have e16 : ¬ (op : Int) = 16 := by omega
    have e17 : ¬ (op : Int) = 17 := by omega
    have e18 : ¬ (op : Int) = 18 := by omega
    have e19 : ¬ (op : Int) = 19 := by omega
    have e20 : ¬ (op : Int) = 20 := by omega
    have e187 : ¬ (op : Int) = 187 := by omega
    have e189 : ¬ (op : Int) = 189 := by omega
    have e192 : ¬ (op : Int) = 192 := by omega
    have e193 : ¬ (op : Int) = 193 := by omega
    have e132 : ¬ (op : Int) = 132 := by omega
    have e198 : ¬ (op : Int) = 198 := by omega
    have e199 : ¬ (op : Int) = 199 := by omega
    have e200 : ¬ (op : Int) = 200 := by omega
    have e170 : ¬ (op : Int) = 170 := by omega
    have e171 : ¬ (op : Int) = 171 := by omega
    have e185 : ¬ (op : Int) = 185 := by omega
    have e188 : ¬ (op : Int) = 188 := by omega
    have e197 : ¬ (op : Int) = 197 := by omega
    have e196 : ¬ (op : Int) = 196 := by omega
    have e168 : ¬ (op : Int) = 168 := by omega
    have e169 : ¬ (op : Int) = 169 := by omega
    have e186 : ¬ (op : Int) = 186 := by omega
    have c0 : ¬ (178 : Int) ≤ (op : Int) := by omega
    have c1 : (op : Int) ≤ 184 := by omega
    have c2 : (21 : Int) ≤ (op : Int) := by omega
    have c3 : ¬ (op : Int) ≤ 25 := by omega
    have c4 : (54 : Int) ≤ (op : Int) := by omega
    have c5 : ¬ (op : Int) ≤ 58 := by omega
    have c6 : ¬ (153 : Int) ≤ (op : Int) := by omega
    have c7 : (op : Int) ≤ 167 := by omega
    have c8 : ¬ (200 : Int) < (op : Int) := by omega
    have hf : formS op = 0 := by simp only [formS, p0, p1, p2, p3, p4, p5, p6, p7, p8, p9, p10, p11, if_true, if_false]
    rw [hf]
    simp (disch := first | omega | assumption) only [C.code_form_gos, T.tv, ↓reduceIte, Nat.reduceEqDiff, reduceCtorEq, Nat.reduceLeDiff, Nat.reducePow, Int.reducePow, Int.reduceToNat, Nat.reduceAdd, eq_false e16, eq_false e17, eq_false e18, eq_false e19, eq_false e20, eq_false e187, eq_false e189, eq_false e192, eq_false e193, eq_false e132, eq_false e198, eq_false e199, eq_false e200, eq_false e170, eq_false e171, eq_false e185, eq_false e188, eq_false e197, eq_false e196, eq_false e168, eq_false e169, eq_false e186, c0, c1, c2, c3, c4, c5, c6, c7, c8, decide_true, decide_false]
    try rfl
  by_cases p12 : op ≤ 167
  case pos =>
    have e16 : ¬ (op : Int) = 16 := by omega
    have e17 : ¬ (op : Int) = 17 := by omega
    have e18 : ¬ (op : Int) = 18 := by omega
    have e19 : ¬ (op : Int) = 19 := by omega
    have e20 : ¬ (op : Int) = 20 := by omega
    have e187 : ¬ (op : Int) = 187 := by omega
    have e189 : ¬ (op : Int) = 189 := by omega
    have e192 : ¬ (op : Int) = 192 := by omega
    have e193 : ¬ (op : Int) = 193 := by omega
    have e132 : ¬ (op : Int) = 132 := by omega
    have e198 : ¬ (op : Int) = 198 := by omega
    have e199 : ¬ (op : Int) = 199 := by omega
    have e200 : ¬ (op : Int) = 200 := by omega
    have e170 : ¬ (op : Int) = 170 := by omega
    have e171 : ¬ (op : Int) = 171 := by omega
    have e185 : ¬ (op : Int) = 185 := by omega
    have e188 : ¬ (op : Int) = 188 := by omega
    have e197 : ¬ (op : Int) = 197 := by omega
    have e196 : ¬ (op : Int) = 196 := by omega
    have e168 : ¬ (op : Int) = 168 := by omega
    have e169 : ¬ (op : Int) = 169 := by omega
    have e186 : ¬ (op : Int) = 186 := by omega
    have c0 : ¬ (178 : Int) ≤ (op : Int) := by omega
    have c1 : (op : Int) ≤ 184 := by omega
    have c2 : (21 : Int) ≤ (op : Int) := by omega
    have c3 : ¬ (op : Int) ≤ 25 := by omega
    have c4 : (54 : Int) ≤ (op : Int) := by omega
    have c5 : ¬ (op : Int) ≤ 58 := by omega
    have c6 : (153 : Int) ≤ (op : Int) := by omega
    have c7 : (op : Int) ≤ 167 := by omega
    have c8 : ¬ (200 : Int) < (op : Int) := by omega
    have hf : formS op = 8 := by simp only [formS, p0, p1, p2, p3, p4, p5, p6, p7, p8, p9, p10, p11, p12, if_true, if_false]
    rw [hf]
    simp (disch := first | omega | assumption) only [C.code_form_gos, T.tv, ↓reduceIte, Nat.reduceEqDiff, reduceCtorEq, Nat.reduceLeDiff, Nat.reducePow, Int.reducePow, Int.reduceToNat, Nat.reduceAdd, eq_false e16, eq_false e17, eq_false e18, eq_false e19, eq_false e20, eq_false e187, eq_false e189, eq_false e192, eq_false e193, eq_false e132, eq_false e198, eq_false e199, eq_false e200, eq_false e170, eq_false e171, eq_false e185, eq_false e188, eq_false e197, eq_false e196, eq_false e168, eq_false e169, eq_false e186, c0, c1, c2, c3, c4, c5, c6, c7, c8, decide_true, decide_false]
    try rfl
  by_cases p13 : op ≤ 168
  case pos =>
    have e16 : ¬ (op : Int) = 16 := by omega
    have e17 : ¬ (op : Int) = 17 := by omega
    have e18 : ¬ (op : Int) = 18 := by omega
    have e19 : ¬ (op : Int) = 19 := by omega
    have e20 : ¬ (op : Int) = 20 := by omega
    have e187 : ¬ (op : Int) = 187 := by omega
    have e189 : ¬ (op : Int) = 189 := by omega
    have e192 : ¬ (op : Int) = 192 := by omega
    have e193 : ¬ (op : Int) = 193 := by omega
    have e132 : ¬ (op : Int) = 132 := by omega
    have e198 : ¬ (op : Int) = 198 := by omega
    have e199 : ¬ (op : Int) = 199 := by omega
    have e200 : ¬ (op : Int) = 200 := by omega
    have e170 : ¬ (op : Int) = 170 := by omega
    have e171 : ¬ (op : Int) = 171 := by omega
    have e185 : ¬ (op : Int) = 185 := by omega
    have e188 : ¬ (op : Int) = 188 := by omega
    have e197 : ¬ (op : Int) = 197 := by omega
    have e196 : ¬ (op : Int) = 196 := by omega
    have e168 : (op : Int) = 168 := by omega
    have e169 : ¬ (op : Int) = 169 := by omega
    have e186 : ¬ (op : Int) = 186 := by omega
    have c0 : ¬ (178 : Int) ≤ (op : Int) := by omega
    have c1 : (op : Int) ≤ 184 := by omega
    have c2 : (21 : Int) ≤ (op : Int) := by omega
    have c3 : ¬ (op : Int) ≤ 25 := by omega
    have c4 : (54 : Int) ≤ (op : Int) := by omega
    have c5 : ¬ (op : Int) ≤ 58 := by omega
    have c6 : (153 : Int) ≤ (op : Int) := by omega
    have c7 : ¬ (op : Int) ≤ 167 := by omega
    have c8 : ¬ (200 : Int) < (op : Int) := by omega
    have hf : formS op = 1 := by simp only [formS, p0, p1, p2, p3, p4, p5, p6, p7, p8, p9, p10, p11, p12, p13, if_true, if_false]
    rw [hf]
    simp (disch := first | omega | assumption) only [C.code_form_gos, T.tv, ↓reduceIte, Nat.reduceEqDiff, reduceCtorEq, Nat.reduceLeDiff, Nat.reducePow, Int.reducePow, Int.reduceToNat, Nat.reduceAdd, eq_false e16, eq_false e17, eq_false e18, eq_false e19, eq_false e20, eq_false e187, eq_false e189, eq_false e192, eq_false e193, eq_false e132, eq_false e198, eq_false e199, eq_false e200, eq_false e170, eq_false e171, eq_false e185, eq_false e188, eq_false e197, eq_false e196, eq_true e168, eq_false e169, eq_false e186, c0, c1, c2, c3, c4, c5, c6, c7, c8, decide_true, decide_false]
    try rfl
  by_cases p14 : op ≤ 169
  case pos =>
    have e16 : ¬ (op : Int) = 16 := by omega
    have e17 : ¬ (op : Int) = 17 := by omega
    have e18 : ¬ (op : Int) = 18 := by omega
    have e19 : ¬ (op : Int) = 19 := by omega
    have e20 : ¬ (op : Int) = 20 := by omega
    have e187 : ¬ (op : Int) = 187 := by omega
    have e189 : ¬ (op : Int) = 189 := by omega
    have e192 : ¬ (op : Int) = 192 := by omega
    have e193 : ¬ (op : Int) = 193 := by omega
    have e132 : ¬ (op : Int) = 132 := by omega
    have e198 : ¬ (op : Int) = 198 := by omega
    have e199 : ¬ (op : Int) = 199 := by omega
    have e200 : ¬ (op : Int) = 200 := by omega
    have e170 : ¬ (op : Int) = 170 := by omega
    have e171 : ¬ (op : Int) = 171 := by omega
    have e185 : ¬ (op : Int) = 185 := by omega
    have e188 : ¬ (op : Int) = 188 := by omega
    have e197 : ¬ (op : Int) = 197 := by omega
    have e196 : ¬ (op : Int) = 196 := by omega
    have e168 : ¬ (op : Int) = 168 := by omega
    have e169 : (op : Int) = 169 := by omega
    have e186 : ¬ (op : Int) = 186 := by omega
    have c0 : ¬ (178 : Int) ≤ (op : Int) := by omega
    have c1 : (op : Int) ≤ 184 := by omega
    have c2 : (21 : Int) ≤ (op : Int) := by omega
    have c3 : ¬ (op : Int) ≤ 25 := by omega
    have c4 : (54 : Int) ≤ (op : Int) := by omega
    have c5 : ¬ (op : Int) ≤ 58 := by omega
    have c6 : (153 : Int) ≤ (op : Int) := by omega
    have c7 : ¬ (op : Int) ≤ 167 := by omega
    have c8 : ¬ (200 : Int) < (op : Int) := by omega
    have hf : formS op = 1 := by simp only [formS, p0, p1, p2, p3, p4, p5, p6, p7, p8, p9, p10, p11, p12, p13, p14, if_true, if_false]
    rw [hf]
    simp (disch := first | omega | assumption) only [C.code_form_gos, T.tv, ↓reduceIte, Nat.reduceEqDiff, reduceCtorEq, Nat.reduceLeDiff, Nat.reducePow, Int.reducePow, Int.reduceToNat, Nat.reduceAdd, eq_false e16, eq_false e17, eq_false e18, eq_false e19, eq_false e20, eq_false e187, eq_false e189, eq_false e192, eq_false e193, eq_false e132, eq_false e198, eq_false e199, eq_false e200, eq_false e170, eq_false e171, eq_false e185, eq_false e188, eq_false e197, eq_false e196, eq_false e168, eq_true e169, eq_false e186, c0, c1, c2, c3, c4, c5, c6, c7, c8, decide_true, decide_false]
    try rfl
  by_cases p15 : op ≤ 170
  case pos =>
    have e16 : ¬ (op : Int) = 16 := by omega
    have e17 : ¬ (op : Int) = 17 := by omega
    have e18 : ¬ (op : Int) = 18 := by omega
    have e19 : ¬ (op : Int) = 19 := by omega
    have e20 : ¬ (op : Int) = 20 := by omega
    have e187 : ¬ (op : Int) = 187 := by omega
    have e189 : ¬ (op : Int) = 189 := by omega
    have e192 : ¬ (op : Int) = 192 := by omega
    have e193 : ¬ (op : Int) = 193 := by omega
    have e132 : ¬ (op : Int) = 132 := by omega
    have e198 : ¬ (op : Int) = 198 := by omega
    have e199 : ¬ (op : Int) = 199 := by omega
    have e200 : ¬ (op : Int) = 200 := by omega
    have e170 : (op : Int) = 170 := by omega
    have e171 : ¬ (op : Int) = 171 := by omega
    have e185 : ¬ (op : Int) = 185 := by omega
    have e188 : ¬ (op : Int) = 188 := by omega
    have e197 : ¬ (op : Int) = 197 := by omega
    have e196 : ¬ (op : Int) = 196 := by omega
    have e168 : ¬ (op : Int) = 168 := by omega
    have e169 : ¬ (op : Int) = 169 := by omega
    have e186 : ¬ (op : Int) = 186 := by omega
    have c0 : ¬ (178 : Int) ≤ (op : Int) := by omega
    have c1 : (op : Int) ≤ 184 := by omega
    have c2 : (21 : Int) ≤ (op : Int) := by omega
    have c3 : ¬ (op : Int) ≤ 25 := by omega
    have c4 : (54 : Int) ≤ (op : Int) := by omega
    have c5 : ¬ (op : Int) ≤ 58 := by omega
    have c6 : (153 : Int) ≤ (op : Int) := by omega
    have c7 : ¬ (op : Int) ≤ 167 := by omega
    have c8 : ¬ (200 : Int) < (op : Int) := by omega
    have hf : formS op = 10 := by simp only [formS, p0, p1, p2, p3, p4, p5, p6, p7, p8, p9, p10, p11, p12, p13, p14, p15, if_true, if_false]
    rw [hf]
    simp (disch := first | omega | assumption) only [C.code_form_gos, T.tv, ↓reduceIte, Nat.reduceEqDiff, reduceCtorEq, Nat.reduceLeDiff, Nat.reducePow, Int.reducePow, Int.reduceToNat, Nat.reduceAdd, eq_false e16, eq_false e17, eq_false e18, eq_false e19, eq_false e20, eq_false e187, eq_false e189, eq_false e192, eq_false e193, eq_false e132, eq_false e198, eq_false e199, eq_false e200, eq_true e170, eq_false e171, eq_false e185, eq_false e188, eq_false e197, eq_false e196, eq_false e168, eq_false e169, eq_false e186, c0, c1, c2, c3, c4, c5, c6, c7, c8, decide_true, decide_false]
    try rfl
  by_cases p16 : op ≤ 171
  case pos =>
    have e16 : ¬ (op : Int) = 16 := by omega
    have e17 : ¬ (op : Int) = 17 := by omega
    have e18 : ¬ (op : Int) = 18 := by omega
    have e19 : ¬ (op : Int) = 19 := by omega
    have e20 : ¬ (op : Int) = 20 := by omega
    have e187 : ¬ (op : Int) = 187 := by omega
    have e189 : ¬ (op : Int) = 189 := by omega
    have e192 : ¬ (op : Int) = 192 := by omega
    have e193 : ¬ (op : Int) = 193 := by omega
    have e132 : ¬ (op : Int) = 132 := by omega
    have e198 : ¬ (op : Int) = 198 := by omega
    have e199 : ¬ (op : Int) = 199 := by omega
    have e200 : ¬ (op : Int) = 200 := by omega
    have e170 : ¬ (op : Int) = 170 := by omega
    have e171 : (op : Int) = 171 := by omega
    have e185 : ¬ (op : Int) = 185 := by omega
    have e188 : ¬ (op : Int) = 188 := by omega
    have e197 : ¬ (op : Int) = 197 := by omega
    have e196 : ¬ (op : Int) = 196 := by omega
    have e168 : ¬ (op : Int) = 168 := by omega
    have e169 : ¬ (op : Int) = 169 := by omega
    have e186 : ¬ (op : Int) = 186 := by omega
    have c0 : ¬ (178 : Int) ≤ (op : Int) := by omega
    have c1 : (op : Int) ≤ 184 := by omega
    have c2 : (21 : Int) ≤ (op : Int) := by omega
    have c3 : ¬ (op : Int) ≤ 25 := by omega
    have c4 : (54 : Int) ≤ (op : Int) := by omega
    have c5 : ¬ (op : Int) ≤ 58 := by omega
    have c6 : (153 : Int) ≤ (op : Int) := by omega
    have c7 : ¬ (op : Int) ≤ 167 := by omega
    have c8 : ¬ (200 : Int) < (op : Int) := by omega
    have hf : formS op = 11 := by simp only [formS, p0, p1, p2, p3, p4, p5, p6, p7, p8, p9, p10, p11, p12, p13, p14, p15, p16, if_true, if_false]
    rw [hf]
    simp (disch := first | omega | assumption) only [C.code_form_gos, T.tv, ↓reduceIte, Nat.reduceEqDiff, reduceCtorEq, Nat.reduceLeDiff, Nat.reducePow, Int.reducePow, Int.reduceToNat, Nat.reduceAdd, eq_false e16, eq_false e17, eq_false e18, eq_false e19, eq_false e20, eq_false e187, eq_false e189, eq_false e192, eq_false e193, eq_false e132, eq_false e198, eq_false e199, eq_false e200, eq_false e170, eq_true e171, eq_false e185, eq_false e188, eq_false e197, eq_false e196, eq_false e168, eq_false e169, eq_false e186, c0, c1, c2, c3, c4, c5, c6, c7, c8, decide_true, decide_false]
    try rfl
  by_cases p17 : op ≤ 177
  case pos =>
    have e16 : ¬ (op : Int) = 16 := by omega
    have e17 : ¬ (op : Int) = 17 := by omega
    have e18 : ¬ (op : Int) = 18 := by omega
    have e19 : ¬ (op : Int) = 19 := by omega
    have e20 : ¬ (op : Int) = 20 := by omega
    have e187 : ¬ (op : Int) = 187 := by omega
    have e189 : ¬ (op : Int) = 189 := by omega
    have e192 : ¬ (op : Int) = 192 := by omega
    have e193 : ¬ (op : Int) = 193 := by omega
    have e132 : ¬ (op : Int) = 132 := by omega
    have e198 : ¬ (op : Int) = 198 := by omega
    have e199 : ¬ (op : Int) = 199 := by omega
    have e200 : ¬ (op : Int) = 200 := by omega
    have e170 : ¬ (op : Int) = 170 := by omega
    have e171 : ¬ (op : Int) = 171 := by omega
    have e185 : ¬ (op : Int) = 185 := by omega
    have e188 : ¬ (op : Int) = 188 := by omega
    have e197 : ¬ (op : Int) = 197 := by omega
    have e196 : ¬ (op : Int) = 196 := by omega
    have e168 : ¬ (op : Int) = 168 := by omega
    have e169 : ¬ (op : Int) = 169 := by omega
    have e186 : ¬ (op : Int) = 186 := by omega
    have c0 : ¬ (178 : Int) ≤ (op : Int) := by omega
    have c1 : (op : Int) ≤ 184 := by omega
    have c2 : (21 : Int) ≤ (op : Int) := by omega
    have c3 : ¬ (op : Int) ≤ 25 := by omega
    have c4 : (54 : Int) ≤ (op : Int) := by omega
    have c5 : ¬ (op : Int) ≤ 58 := by omega
    have c6 : (153 : Int) ≤ (op : Int) := by omega
    have c7 : ¬ (op : Int) ≤ 167 := by omega
    have c8 : ¬ (200 : Int) < (op : Int) := by omega
    have hf : formS op = 0 := by simp only [formS, p0, p1, p2, p3, p4, p5, p6, p7, p8, p9, p10, p11, p12, p13, p14, p15, p16, p17, if_true, if_false]
    rw [hf]
    simp (disch := first | omega | assumption) only [C.code_form_gos, T.tv, ↓reduceIte, Nat.reduceEqDiff, reduceCtorEq, Nat.reduceLeDiff, Nat.reducePow, Int.reducePow, Int.reduceToNat, Nat.reduceAdd, eq_false e16, eq_false e17, eq_false e18, eq_false e19, eq_false e20, eq_false e187, eq_false e189, eq_false e192, eq_false e193, eq_false e132, eq_false e198, eq_false e199, eq_false e200, eq_false e170, eq_false e171, eq_false e185, eq_false e188, eq_false e197, eq_false e196, eq_false e168, eq_false e169, eq_false e186, c0, c1, c2, c3, c4, c5, c6, c7, c8, decide_true, decide_false]
    try rfl
  by_cases p18 : op ≤ 184
  case pos =>
    have e16 : ¬ (op : Int) = 16 := by omega
    have e17 : ¬ (op : Int) = 17 := by omega
    have e18 : ¬ (op : Int) = 18 := by omega
    have e19 : ¬ (op : Int) = 19 := by omega
    have e20 : ¬ (op : Int) = 20 := by omega
    have e187 : ¬ (op : Int) = 187 := by omega
    have e189 : ¬ (op : Int) = 189 := by omega
    have e192 : ¬ (op : Int) = 192 := by omega
    have e193 : ¬ (op : Int) = 193 := by omega
    have e132 : ¬ (op : Int) = 132 := by omega
    have e198 : ¬ (op : Int) = 198 := by omega
    have e199 : ¬ (op : Int) = 199 := by omega
    have e200 : ¬ (op : Int) = 200 := by omega
    have e170 : ¬ (op : Int) = 170 := by omega
    have e171 : ¬ (op : Int) = 171 := by omega
    have e185 : ¬ (op : Int) = 185 := by omega
    have e188 : ¬ (op : Int) = 188 := by omega
    have e197 : ¬ (op : Int) = 197 := by omega
    have e196 : ¬ (op : Int) = 196 := by omega
    have e168 : ¬ (op : Int) = 168 := by omega
    have e169 : ¬ (op : Int) = 169 := by omega
    have e186 : ¬ (op : Int) = 186 := by omega
    have c0 : (178 : Int) ≤ (op : Int) := by omega
    have c1 : (op : Int) ≤ 184 := by omega
    have c2 : (21 : Int) ≤ (op : Int) := by omega
    have c3 : ¬ (op : Int) ≤ 25 := by omega
    have c4 : (54 : Int) ≤ (op : Int) := by omega
    have c5 : ¬ (op : Int) ≤ 58 := by omega
    have c6 : (153 : Int) ≤ (op : Int) := by omega
    have c7 : ¬ (op : Int) ≤ 167 := by omega
    have c8 : ¬ (200 : Int) < (op : Int) := by omega
    have hf : formS op = 5 := by simp only [formS, p0, p1, p2, p3, p4, p5, p6, p7, p8, p9, p10, p11, p12, p13, p14, p15, p16, p17, p18, if_true, if_false]
    rw [hf]
    simp (disch := first | omega | assumption) only [C.code_form_gos, T.tv, ↓reduceIte, Nat.reduceEqDiff, reduceCtorEq, Nat.reduceLeDiff, Nat.reducePow, Int.reducePow, Int.reduceToNat, Nat.reduceAdd, eq_false e16, eq_false e17, eq_false e18, eq_false e19, eq_false e20, eq_false e187, eq_false e189, eq_false e192, eq_false e193, eq_false e132, eq_false e198, eq_false e199, eq_false e200, eq_false e170, eq_false e171, eq_false e185, eq_false e188, eq_false e197, eq_false e196, eq_false e168, eq_false e169, eq_false e186, c0, c1, c2, c3, c4, c5, c6, c7, c8, decide_true, decide_false]
    try rfl
  by_cases p19 : op ≤ 185
  case pos =>
    have e16 : ¬ (op : Int) = 16 := by omega
    have e17 : ¬ (op : Int) = 17 := by omega
    have e18 : ¬ (op : Int) = 18 := by omega
    have e19 : ¬ (op : Int) = 19 := by omega
    have e20 : ¬ (op : Int) = 20 := by omega
    have e187 : ¬ (op : Int) = 187 := by omega
    have e189 : ¬ (op : Int) = 189 := by omega
    have e192 : ¬ (op : Int) = 192 := by omega
    have e193 : ¬ (op : Int) = 193 := by omega
    have e132 : ¬ (op : Int) = 132 := by omega
    have e198 : ¬ (op : Int) = 198 := by omega
    have e199 : ¬ (op : Int) = 199 := by omega
    have e200 : ¬ (op : Int) = 200 := by omega
    have e170 : ¬ (op : Int) = 170 := by omega
    have e171 : ¬ (op : Int) = 171 := by omega
    have e185 : (op : Int) = 185 := by omega
    have e188 : ¬ (op : Int) = 188 := by omega
    have e197 : ¬ (op : Int) = 197 := by omega
    have e196 : ¬ (op : Int) = 196 := by omega
    have e168 : ¬ (op : Int) = 168 := by omega
    have e169 : ¬ (op : Int) = 169 := by omega
    have e186 : ¬ (op : Int) = 186 := by omega
    have c0 : (178 : Int) ≤ (op : Int) := by omega
    have c1 : ¬ (op : Int) ≤ 184 := by omega
    have c2 : (21 : Int) ≤ (op : Int) := by omega
    have c3 : ¬ (op : Int) ≤ 25 := by omega
    have c4 : (54 : Int) ≤ (op : Int) := by omega
    have c5 : ¬ (op : Int) ≤ 58 := by omega
    have c6 : (153 : Int) ≤ (op : Int) := by omega
    have c7 : ¬ (op : Int) ≤ 167 := by omega
    have c8 : ¬ (200 : Int) < (op : Int) := by omega
    have hf : formS op = 12 := by simp only [formS, p0, p1, p2, p3, p4, p5, p6, p7, p8, p9, p10, p11, p12, p13, p14, p15, p16, p17, p18, p19, if_true, if_false]
    rw [hf]
    simp (disch := first | omega | assumption) only [C.code_form_gos, T.tv, ↓reduceIte, Nat.reduceEqDiff, reduceCtorEq, Nat.reduceLeDiff, Nat.reducePow, Int.reducePow, Int.reduceToNat, Nat.reduceAdd, eq_false e16, eq_false e17, eq_false e18, eq_false e19, eq_false e20, eq_false e187, eq_false e189, eq_false e192, eq_false e193, eq_false e132, eq_false e198, eq_false e199, eq_false e200, eq_false e170, eq_false e171, eq_true e185, eq_false e188, eq_false e197, eq_false e196, eq_false e168, eq_false e169, eq_false e186, c0, c1, c2, c3, c4, c5, c6, c7, c8, decide_true, decide_false]
    try rfl
  by_cases p20 : op ≤ 186
  case pos =>
    have e16 : ¬ (op : Int) = 16 := by omega
    have e17 : ¬ (op : Int) = 17 := by omega
    have e18 : ¬ (op : Int) = 18 := by omega
    have e19 : ¬ (op : Int) = 19 := by omega
    have e20 : ¬ (op : Int) = 20 := by omega
    have e187 : ¬ (op : Int) = 187 := by omega
    have e189 : ¬ (op : Int) = 189 := by omega
    have e192 : ¬ (op : Int) = 192 := by omega
    have e193 : ¬ (op : Int) = 193 := by omega
    have e132 : ¬ (op : Int) = 132 := by omega
    have e198 : ¬ (op : Int) = 198 := by omega
    have e199 : ¬ (op : Int) = 199 := by omega
    have e200 : ¬ (op : Int) = 200 := by omega
    have e170 : ¬ (op : Int) = 170 := by omega
    have e171 : ¬ (op : Int) = 171 := by omega
    have e185 : ¬ (op : Int) = 185 := by omega
    have e188 : ¬ (op : Int) = 188 := by omega
    have e197 : ¬ (op : Int) = 197 := by omega
    have e196 : ¬ (op : Int) = 196 := by omega
    have e168 : ¬ (op : Int) = 168 := by omega
    have e169 : ¬ (op : Int) = 169 := by omega
    have e186 : (op : Int) = 186 := by omega
    have c0 : (178 : Int) ≤ (op : Int) := by omega
    have c1 : ¬ (op : Int) ≤ 184 := by omega
    have c2 : (21 : Int) ≤ (op : Int) := by omega
    have c3 : ¬ (op : Int) ≤ 25 := by omega
    have c4 : (54 : Int) ≤ (op : Int) := by omega
    have c5 : ¬ (op : Int) ≤ 58 := by omega
    have c6 : (153 : Int) ≤ (op : Int) := by omega
    have c7 : ¬ (op : Int) ≤ 167 := by omega
    have c8 : ¬ (200 : Int) < (op : Int) := by omega
    have hf : formS op = 1 := by simp only [formS, p0, p1, p2, p3, p4, p5, p6, p7, p8, p9, p10, p11, p12, p13, p14, p15, p16, p17, p18, p19, p20, if_true, if_false]
    rw [hf]
    simp (disch := first | omega | assumption) only [C.code_form_gos, T.tv, ↓reduceIte, Nat.reduceEqDiff, reduceCtorEq, Nat.reduceLeDiff, Nat.reducePow, Int.reducePow, Int.reduceToNat, Nat.reduceAdd, eq_false e16, eq_false e17, eq_false e18, eq_false e19, eq_false e20, eq_false e187, eq_false e189, eq_false e192, eq_false e193, eq_false e132, eq_false e198, eq_false e199, eq_false e200, eq_false e170, eq_false e171, eq_false e185, eq_false e188, eq_false e197, eq_false e196, eq_false e168, eq_false e169, eq_true e186, c0, c1, c2, c3, c4, c5, c6, c7, c8, decide_true, decide_false]
    try rfl
  by_cases p21 : op ≤ 187
  case pos =>
    have e16 : ¬ (op : Int) = 16 := by omega
    have e17 : ¬ (op : Int) = 17 := by omega
    have e18 : ¬ (op : Int) = 18 := by omega
    have e19 : ¬ (op : Int) = 19 := by omega
    have e20 : ¬ (op : Int) = 20 := by omega
    have e187 : (op : Int) = 187 := by omega
    have e189 : ¬ (op : Int) = 189 := by omega
    have e192 : ¬ (op : Int) = 192 := by omega
    have e193 : ¬ (op : Int) = 193 := by omega
    have e132 : ¬ (op : Int) = 132 := by omega
    have e198 : ¬ (op : Int) = 198 := by omega
    have e199 : ¬ (op : Int) = 199 := by omega
    have e200 : ¬ (op : Int) = 200 := by omega
    have e170 : ¬ (op : Int) = 170 := by omega
    have e171 : ¬ (op : Int) = 171 := by omega
    have e185 : ¬ (op : Int) = 185 := by omega
    have e188 : ¬ (op : Int) = 188 := by omega
    have e197 : ¬ (op : Int) = 197 := by omega
    have e196 : ¬ (op : Int) = 196 := by omega
    have e168 : ¬ (op : Int) = 168 := by omega
    have e169 : ¬ (op : Int) = 169 := by omega
    have e186 : ¬ (op : Int) = 186 := by omega
    have c0 : (178 : Int) ≤ (op : Int) := by omega
    have c1 : ¬ (op : Int) ≤ 184 := by omega
    have c2 : (21 : Int) ≤ (op : Int) := by omega
    have c3 : ¬ (op : Int) ≤ 25 := by omega
    have c4 : (54 : Int) ≤ (op : Int) := by omega
    have c5 : ¬ (op : Int) ≤ 58 := by omega
    have c6 : (153 : Int) ≤ (op : Int) := by omega
    have c7 : ¬ (op : Int) ≤ 167 := by omega
    have c8 : ¬ (200 : Int) < (op : Int) := by omega
    have hf : formS op = 5 := by simp only [formS, p0, p1, p2, p3, p4, p5, p6, p7, p8, p9, p10, p11, p12, p13, p14, p15, p16, p17, p18, p19, p20, p21, if_true, if_false]
    rw [hf]
    simp (disch := first | omega | assumption) only [C.code_form_gos, T.tv, ↓reduceIte, Nat.reduceEqDiff, reduceCtorEq, Nat.reduceLeDiff, Nat.reducePow, Int.reducePow, Int.reduceToNat, Nat.reduceAdd, eq_false e16, eq_false e17, eq_false e18, eq_false e19, eq_false e20, eq_true e187, eq_false e189, eq_false e192, eq_false e193, eq_false e132, eq_false e198, eq_false e199, eq_false e200, eq_false e170, eq_false e171, eq_false e185, eq_false e188, eq_false e197, eq_false e196, eq_false e168, eq_false e169, eq_false e186, c0, c1, c2, c3, c4, c5, c6, c7, c8, decide_true, decide_false]
    try rfl
  by_cases p22 : op ≤ 188
  case pos =>
    have e16 : ¬ (op : Int) = 16 := by omega
    have e17 : ¬ (op : Int) = 17 := by omega
    have e18 : ¬ (op : Int) = 18 := by omega
    have e19 : ¬ (op : Int) = 19 := by omega
    have e20 : ¬ (op : Int) = 20 := by omega
    have e187 : ¬ (op : Int) = 187 := by omega
    have e189 : ¬ (op : Int) = 189 := by omega
    have e192 : ¬ (op : Int) = 192 := by omega
    have e193 : ¬ (op : Int) = 193 := by omega
    have e132 : ¬ (op : Int) = 132 := by omega
    have e198 : ¬ (op : Int) = 198 := by omega
    have e199 : ¬ (op : Int) = 199 := by omega
    have e200 : ¬ (op : Int) = 200 := by omega
    have e170 : ¬ (op : Int) = 170 := by omega
    have e171 : ¬ (op : Int) = 171 := by omega
    have e185 : ¬ (op : Int) = 185 := by omega
    have e188 : (op : Int) = 188 := by omega
    have e197 : ¬ (op : Int) = 197 := by omega
    have e196 : ¬ (op : Int) = 196 := by omega
    have e168 : ¬ (op : Int) = 168 := by omega
    have e169 : ¬ (op : Int) = 169 := by omega
    have e186 : ¬ (op : Int) = 186 := by omega
    have c0 : (178 : Int) ≤ (op : Int) := by omega
    have c1 : ¬ (op : Int) ≤ 184 := by omega
    have c2 : (21 : Int) ≤ (op : Int) := by omega
    have c3 : ¬ (op : Int) ≤ 25 := by omega
    have c4 : (54 : Int) ≤ (op : Int) := by omega
    have c5 : ¬ (op : Int) ≤ 58 := by omega
    have c6 : (153 : Int) ≤ (op : Int) := by omega
    have c7 : ¬ (op : Int) ≤ 167 := by omega
    have c8 : ¬ (200 : Int) < (op : Int) := by omega
    have hf : formS op = 13 := by simp only [formS, p0, p1, p2, p3, p4, p5, p6, p7, p8, p9, p10, p11, p12, p13, p14, p15, p16, p17, p18, p19, p20, p21, p22, if_true, if_false]
    rw [hf]
    simp (disch := first | omega | assumption) only [C.code_form_gos, T.tv, ↓reduceIte, Nat.reduceEqDiff, reduceCtorEq, Nat.reduceLeDiff, Nat.reducePow, Int.reducePow, Int.reduceToNat, Nat.reduceAdd, eq_false e16, eq_false e17, eq_false e18, eq_false e19, eq_false e20, eq_false e187, eq_false e189, eq_false e192, eq_false e193, eq_false e132, eq_false e198, eq_false e199, eq_false e200, eq_false e170, eq_false e171, eq_false e185, eq_true e188, eq_false e197, eq_false e196, eq_false e168, eq_false e169, eq_false e186, c0, c1, c2, c3, c4, c5, c6, c7, c8, decide_true, decide_false]
    try rfl
  by_cases p23 : op ≤ 189
  case pos =>
    have e16 : ¬ (op : Int) = 16 := by omega
    have e17 : ¬ (op : Int) = 17 := by omega
    have e18 : ¬ (op : Int) = 18 := by omega
    have e19 : ¬ (op : Int) = 19 := by omega
    have e20 : ¬ (op : Int) = 20 := by omega
    have e187 : ¬ (op : Int) = 187 := by omega
    have e189 : (op : Int) = 189 := by omega
    have e192 : ¬ (op : Int) = 192 := by omega
    have e193 : ¬ (op : Int) = 193 := by omega
    have e132 : ¬ (op : Int) = 132 := by omega
    have e198 : ¬ (op : Int) = 198 := by omega
    have e199 : ¬ (op : Int) = 199 := by omega
    have e200 : ¬ (op : Int) = 200 := by omega
    have e170 : ¬ (op : Int) = 170 := by omega
    have e171 : ¬ (op : Int) = 171 := by omega
    have e185 : ¬ (op : Int) = 185 := by omega
    have e188 : ¬ (op : Int) = 188 := by omega
    have e197 : ¬ (op : Int) = 197 := by omega
    have e196 : ¬ (op : Int) = 196 := by omega
    have e168 : ¬ (op : Int) = 168 := by omega
    have e169 : ¬ (op : Int) = 169 := by omega
    have e186 : ¬ (op : Int) = 186 := by omega
    have c0 : (178 : Int) ≤ (op : Int) := by omega
    have c1 : ¬ (op : Int) ≤ 184 := by omega
    have c2 : (21 : Int) ≤ (op : Int) := by omega
    have c3 : ¬ (op : Int) ≤ 25 := by omega
    have c4 : (54 : Int) ≤ (op : Int) := by omega
    have c5 : ¬ (op : Int) ≤ 58 := by omega
    have c6 : (153 : Int) ≤ (op : Int) := by omega
    have c7 : ¬ (op : Int) ≤ 167 := by omega
    have c8 : ¬ (200 : Int) < (op : Int) := by omega
    have hf : formS op = 5 := by simp only [formS, p0, p1, p2, p3, p4, p5, p6, p7, p8, p9, p10, p11, p12, p13, p14, p15, p16, p17, p18, p19, p20, p21, p22, p23, if_true, if_false]
    rw [hf]
    simp (disch := first | omega | assumption) only [C.code_form_gos, T.tv, ↓reduceIte, Nat.reduceEqDiff, reduceCtorEq, Nat.reduceLeDiff, Nat.reducePow, Int.reducePow, Int.reduceToNat, Nat.reduceAdd, eq_false e16, eq_false e17, eq_false e18, eq_false e19, eq_false e20, eq_false e187, eq_true e189, eq_false e192, eq_false e193, eq_false e132, eq_false e198, eq_false e199, eq_false e200, eq_false e170, eq_false e171, eq_false e185, eq_false e188, eq_false e197, eq_false e196, eq_false e168, eq_false e169, eq_false e186, c0, c1, c2, c3, c4, c5, c6, c7, c8, decide_true, decide_false]
    try rfl
  by_cases p24 : op ≤ 191
  case pos =>
    have e16 : ¬ (op : Int) = 16 := by omega
    have e17 : ¬ (op : Int) = 17 := by omega
    have e18 : ¬ (op : Int) = 18 := by omega
    have e19 : ¬ (op : Int) = 19 := by omega
    have e20 : ¬ (op : Int) = 20 := by omega
    have e187 : ¬ (op : Int) = 187 := by omega
    have e189 : ¬ (op : Int) = 189 := by omega
    have e192 : ¬ (op : Int) = 192 := by omega
    have e193 : ¬ (op : Int) = 193 := by omega
    have e132 : ¬ (op : Int) = 132 := by omega
    have e198 : ¬ (op : Int) = 198 := by omega
    have e199 : ¬ (op : Int) = 199 := by omega
    have e200 : ¬ (op : Int) = 200 := by omega
    have e170 : ¬ (op : Int) = 170 := by omega
    have e171 : ¬ (op : Int) = 171 := by omega
    have e185 : ¬ (op : Int) = 185 := by omega
    have e188 : ¬ (op : Int) = 188 := by omega
    have e197 : ¬ (op : Int) = 197 := by omega
    have e196 : ¬ (op : Int) = 196 := by omega
    have e168 : ¬ (op : Int) = 168 := by omega
    have e169 : ¬ (op : Int) = 169 := by omega
    have e186 : ¬ (op : Int) = 186 := by omega
    have c0 : (178 : Int) ≤ (op : Int) := by omega
    have c1 : ¬ (op : Int) ≤ 184 := by omega
    have c2 : (21 : Int) ≤ (op : Int) := by omega
    have c3 : ¬ (op : Int) ≤ 25 := by omega
    have c4 : (54 : Int) ≤ (op : Int) := by omega
    have c5 : ¬ (op : Int) ≤ 58 := by omega
    have c6 : (153 : Int) ≤ (op : Int) := by omega
    have c7 : ¬ (op : Int) ≤ 167 := by omega
    have c8 : ¬ (200 : Int) < (op : Int) := by omega
    have hf : formS op = 0 := by simp only [formS, p0, p1, p2, p3, p4, p5, p6, p7, p8, p9, p10, p11, p12, p13, p14, p15, p16, p17, p18, p19, p20, p21, p22, p23, p24, if_true, if_false]
    rw [hf]
    simp (disch := first | omega | assumption) only [C.code_form_gos, T.tv, ↓reduceIte, Nat.reduceEqDiff, reduceCtorEq, Nat.reduceLeDiff, Nat.reducePow, Int.reducePow, Int.reduceToNat, Nat.reduceAdd, eq_false e16, eq_false e17, eq_false e18, eq_false e19, eq_false e20, eq_false e187, eq_false e189, eq_false e192, eq_false e193, eq_false e132, eq_false e198, eq_false e199, eq_false e200, eq_false e170, eq_false e171, eq_false e185, eq_false e188, eq_false e197, eq_false e196, eq_false e168, eq_false e169, eq_false e186, c0, c1, c2, c3, c4, c5, c6, c7, c8, decide_true, decide_false]
    try rfl
  by_cases p25 : op ≤ 192
  case pos =>
    have e16 : ¬ (op : Int) = 16 := by omega
    have e17 : ¬ (op : Int) = 17 := by omega
    have e18 : ¬ (op : Int) = 18 := by omega
    have e19 : ¬ (op : Int) = 19 := by omega
    have e20 : ¬ (op : Int) = 20 := by omega
    have e187 : ¬ (op : Int) = 187 := by omega
    have e189 : ¬ (op : Int) = 189 := by omega
    have e192 : (op : Int) = 192 := by omega
    have e193 : ¬ (op : Int) = 193 := by omega
    have e132 : ¬ (op : Int) = 132 := by omega
    have e198 : ¬ (op : Int) = 198 := by omega
    have e199 : ¬ (op : Int) = 199 := by omega
    have e200 : ¬ (op : Int) = 200 := by omega
    have e170 : ¬ (op : Int) = 170 := by omega
    have e171 : ¬ (op : Int) = 171 := by omega
    have e185 : ¬ (op : Int) = 185 := by omega
    have e188 : ¬ (op : Int) = 188 := by omega
    have e197 : ¬ (op : Int) = 197 := by omega
    have e196 : ¬ (op : Int) = 196 := by omega
    have e168 : ¬ (op : Int) = 168 := by omega
    have e169 : ¬ (op : Int) = 169 := by omega
    have e186 : ¬ (op : Int) = 186 := by omega
    have c0 : (178 : Int) ≤ (op : Int) := by omega
    have c1 : ¬ (op : Int) ≤ 184 := by omega
    have c2 : (21 : Int) ≤ (op : Int) := by omega
    have c3 : ¬ (op : Int) ≤ 25 := by omega
    have c4 : (54 : Int) ≤ (op : Int) := by omega
    have c5 : ¬ (op : Int) ≤ 58 := by omega
    have c6 : (153 : Int) ≤ (op : Int) := by omega
    have c7 : ¬ (op : Int) ≤ 167 := by omega
    have c8 : ¬ (200 : Int) < (op : Int) := by omega
    have hf : formS op = 5 := by simp only [formS, p0, p1, p2, p3, p4, p5, p6, p7, p8, p9, p10, p11, p12, p13, p14, p15, p16, p17, p18, p19, p20, p21, p22, p23, p24, p25, if_true, if_false]
    rw [hf]
    simp (disch := first | omega | assumption) only [C.code_form_gos, T.tv, ↓reduceIte, Nat.reduceEqDiff, reduceCtorEq, Nat.reduceLeDiff, Nat.reducePow, Int.reducePow, Int.reduceToNat, Nat.reduceAdd, eq_false e16, eq_false e17, eq_false e18, eq_false e19, eq_false e20, eq_false e187, eq_false e189, eq_true e192, eq_false e193, eq_false e132, eq_false e198, eq_false e199, eq_false e200, eq_false e170, eq_false e171, eq_false e185, eq_false e188, eq_false e197, eq_false e196, eq_false e168, eq_false e169, eq_false e186, c0, c1, c2, c3, c4, c5, c6, c7, c8, decide_true, decide_false]
    try rfl
  by_cases p26 : op ≤ 193
  case pos =>
    have e16 : ¬ (op : Int) = 16 := by omega
    have e17 : ¬ (op : Int) = 17 := by omega
    have e18 : ¬ (op : Int) = 18 := by omega
    have e19 : ¬ (op : Int) = 19 := by omega
    have e20 : ¬ (op : Int) = 20 := by omega
    have e187 : ¬ (op : Int) = 187 := by omega
    have e189 : ¬ (op : Int) = 189 := by omega
    have e192 : ¬ (op : Int) = 192 := by omega
    have e193 : (op : Int) = 193 := by omega
    have e132 : ¬ (op : Int) = 132 := by omega
    have e198 : ¬ (op : Int) = 198 := by omega
    have e199 : ¬ (op : Int) = 199 := by omega
    have e200 : ¬ (op : Int) = 200 := by omega
    have e170 : ¬ (op : Int) = 170 := by omega
    have e171 : ¬ (op : Int) = 171 := by omega
    have e185 : ¬ (op : Int) = 185 := by omega
    have e188 : ¬ (op : Int) = 188 := by omega
    have e197 : ¬ (op : Int) = 197 := by omega
    have e196 : ¬ (op : Int) = 196 := by omega
    have e168 : ¬ (op : Int) = 168 := by omega
    have e169 : ¬ (op : Int) = 169 := by omega
    have e186 : ¬ (op : Int) = 186 := by omega
    have c0 : (178 : Int) ≤ (op : Int) := by omega
    have c1 : ¬ (op : Int) ≤ 184 := by omega
    have c2 : (21 : Int) ≤ (op : Int) := by omega
    have c3 : ¬ (op : Int) ≤ 25 := by omega
    have c4 : (54 : Int) ≤ (op : Int) := by omega
    have c5 : ¬ (op : Int) ≤ 58 := by omega
    have c6 : (153 : Int) ≤ (op : Int) := by omega
    have c7 : ¬ (op : Int) ≤ 167 := by omega
    have c8 : ¬ (200 : Int) < (op : Int) := by omega
    have hf : formS op = 5 := by simp only [formS, p0, p1, p2, p3, p4, p5, p6, p7, p8, p9, p10, p11, p12, p13, p14, p15, p16, p17, p18, p19, p20, p21, p22, p23, p24, p25, p26, if_true, if_false]
    rw [hf]
    simp (disch := first | omega | assumption) only [C.code_form_gos, T.tv, ↓reduceIte, Nat.reduceEqDiff, reduceCtorEq, Nat.reduceLeDiff, Nat.reducePow, Int.reducePow, Int.reduceToNat, Nat.reduceAdd, eq_false e16, eq_false e17, eq_false e18, eq_false e19, eq_false e20, eq_false e187, eq_false e189, eq_false e192, eq_true e193, eq_false e132, eq_false e198, eq_false e199, eq_false e200, eq_false e170, eq_false e171, eq_false e185, eq_false e188, eq_false e197, eq_false e196, eq_false e168, eq_false e169, eq_false e186, c0, c1, c2, c3, c4, c5, c6, c7, c8, decide_true, decide_false]
    try rfl
  by_cases p27 : op ≤ 195
  case pos =>
    have e16 : ¬ (op : Int) = 16 := by omega
    have e17 : ¬ (op : Int) = 17 := by omega
    have e18 : ¬ (op : Int) = 18 := by omega
    have e19 : ¬ (op : Int) = 19 := by omega
    have e20 : ¬ (op : Int) = 20 := by omega
    have e187 : ¬ (op : Int) = 187 := by omega
    have e189 : ¬ (op : Int) = 189 := by omega
    have e192 : ¬ (op : Int) = 192 := by omega
    have e193 : ¬ (op : Int) = 193 := by omega
    have e132 : ¬ (op : Int) = 132 := by omega
    have e198 : ¬ (op : Int) = 198 := by omega
    have e199 : ¬ (op : Int) = 199 := by omega
    have e200 : ¬ (op : Int) = 200 := by omega
    have e170 : ¬ (op : Int) = 170 := by omega
    have e171 : ¬ (op : Int) = 171 := by omega
    have e185 : ¬ (op : Int) = 185 := by omega
    have e188 : ¬ (op : Int) = 188 := by omega
    have e197 : ¬ (op : Int) = 197 := by omega
    have e196 : ¬ (op : Int) = 196 := by omega
    have e168 : ¬ (op : Int) = 168 := by omega
    have e169 : ¬ (op : Int) = 169 := by omega
    have e186 : ¬ (op : Int) = 186 := by omega
    have c0 : (178 : Int) ≤ (op : Int) := by omega
    have c1 : ¬ (op : Int) ≤ 184 := by omega
    have c2 : (21 : Int) ≤ (op : Int) := by omega
    have c3 : ¬ (op : Int) ≤ 25 := by omega
    have c4 : (54 : Int) ≤ (op : Int) := by omega
    have c5 : ¬ (op : Int) ≤ 58 := by omega
    have c6 : (153 : Int) ≤ (op : Int) := by omega
    have c7 : ¬ (op : Int) ≤ 167 := by omega
    have c8 : ¬ (200 : Int) < (op : Int) := by omega
    have hf : formS op = 0 := by simp only [formS, p0, p1, p2, p3, p4, p5, p6, p7, p8, p9, p10, p11, p12, p13, p14, p15, p16, p17, p18, p19, p20, p21, p22, p23, p24, p25, p26, p27, if_true, if_false]
    rw [hf]
    simp (disch := first | omega | assumption) only [C.code_form_gos, T.tv, ↓reduceIte, Nat.reduceEqDiff, reduceCtorEq, Nat.reduceLeDiff, Nat.reducePow, Int.reducePow, Int.reduceToNat, Nat.reduceAdd, eq_false e16, eq_false e17, eq_false e18, eq_false e19, eq_false e20, eq_false e187, eq_false e189, eq_false e192, eq_false e193, eq_false e132, eq_false e198, eq_false e199, eq_false e200, eq_false e170, eq_false e171, eq_false e185, eq_false e188, eq_false e197, eq_false e196, eq_false e168, eq_false e169, eq_false e186, c0, c1, c2, c3, c4, c5, c6, c7, c8, decide_true, decide_false]
    try rfl
  by_cases p28 : op ≤ 196
  case pos =>
    have e16 : ¬ (op : Int) = 16 := by omega
    have e17 : ¬ (op : Int) = 17 := by omega
    have e18 : ¬ (op : Int) = 18 := by omega
    have e19 : ¬ (op : Int) = 19 := by omega
    have e20 : ¬ (op : Int) = 20 := by omega
    have e187 : ¬ (op : Int) = 187 := by omega
    have e189 : ¬ (op : Int) = 189 := by omega
    have e192 : ¬ (op : Int) = 192 := by omega
    have e193 : ¬ (op : Int) = 193 := by omega
    have e132 : ¬ (op : Int) = 132 := by omega
    have e198 : ¬ (op : Int) = 198 := by omega
    have e199 : ¬ (op : Int) = 199 := by omega
    have e200 : ¬ (op : Int) = 200 := by omega
    have e170 : ¬ (op : Int) = 170 := by omega
    have e171 : ¬ (op : Int) = 171 := by omega
    have e185 : ¬ (op : Int) = 185 := by omega
    have e188 : ¬ (op : Int) = 188 := by omega
    have e197 : ¬ (op : Int) = 197 := by omega
    have e196 : (op : Int) = 196 := by omega
    have e168 : ¬ (op : Int) = 168 := by omega
    have e169 : ¬ (op : Int) = 169 := by omega
    have e186 : ¬ (op : Int) = 186 := by omega
    have c0 : (178 : Int) ≤ (op : Int) := by omega
    have c1 : ¬ (op : Int) ≤ 184 := by omega
    have c2 : (21 : Int) ≤ (op : Int) := by omega
    have c3 : ¬ (op : Int) ≤ 25 := by omega
    have c4 : (54 : Int) ≤ (op : Int) := by omega
    have c5 : ¬ (op : Int) ≤ 58 := by omega
    have c6 : (153 : Int) ≤ (op : Int) := by omega
    have c7 : ¬ (op : Int) ≤ 167 := by omega
    have c8 : ¬ (200 : Int) < (op : Int) := by omega
    have hf : formS op = 15 := by simp only [formS, p0, p1, p2, p3, p4, p5, p6, p7, p8, p9, p10, p11, p12, p13, p14, p15, p16, p17, p18, p19, p20, p21, p22, p23, p24, p25, p26, p27, p28, if_true, if_false]
    rw [hf]
    simp (disch := first | omega | assumption) only [C.code_form_gos, T.tv, ↓reduceIte, Nat.reduceEqDiff, reduceCtorEq, Nat.reduceLeDiff, Nat.reducePow, Int.reducePow, Int.reduceToNat, Nat.reduceAdd, eq_false e16, eq_false e17, eq_false e18, eq_false e19, eq_false e20, eq_false e187, eq_false e189, eq_false e192, eq_false e193, eq_false e132, eq_false e198, eq_false e199, eq_false e200, eq_false e170, eq_false e171, eq_false e185, eq_false e188, eq_false e197, eq_true e196, eq_false e168, eq_false e169, eq_false e186, c0, c1, c2, c3, c4, c5, c6, c7, c8, decide_true, decide_false]
    try rfl
  by_cases p29 : op ≤ 197
  case pos =>
    have e16 : ¬ (op : Int) = 16 := by omega
    have e17 : ¬ (op : Int) = 17 := by omega
    have e18 : ¬ (op : Int) = 18 := by omega
    have e19 : ¬ (op : Int) = 19 := by omega
    have e20 : ¬ (op : Int) = 20 := by omega
    have e187 : ¬ (op : Int) = 187 := by omega
    have e189 : ¬ (op : Int) = 189 := by omega
    have e192 : ¬ (op : Int) = 192 := by omega
    have e193 : ¬ (op : Int) = 193 := by omega
    have e132 : ¬ (op : Int) = 132 := by omega
    have e198 : ¬ (op : Int) = 198 := by omega
    have e199 : ¬ (op : Int) = 199 := by omega
    have e200 : ¬ (op : Int) = 200 := by omega
    have e170 : ¬ (op : Int) = 170 := by omega
    have e171 : ¬ (op : Int) = 171 := by omega
    have e185 : ¬ (op : Int) = 185 := by omega
    have e188 : ¬ (op : Int) = 188 := by omega
    have e197 : (op : Int) = 197 := by omega
    have e196 : ¬ (op : Int) = 196 := by omega
    have e168 : ¬ (op : Int) = 168 := by omega
    have e169 : ¬ (op : Int) = 169 := by omega
    have e186 : ¬ (op : Int) = 186 := by omega
    have c0 : (178 : Int) ≤ (op : Int) := by omega
    have c1 : ¬ (op : Int) ≤ 184 := by omega
    have c2 : (21 : Int) ≤ (op : Int) := by omega
    have c3 : ¬ (op : Int) ≤ 25 := by omega
    have c4 : (54 : Int) ≤ (op : Int) := by omega
    have c5 : ¬ (op : Int) ≤ 58 := by omega
    have c6 : (153 : Int) ≤ (op : Int) := by omega
    have c7 : ¬ (op : Int) ≤ 167 := by omega
    have c8 : ¬ (200 : Int) < (op : Int) := by omega
    have hf : formS op = 14 := by simp only [formS, p0, p1, p2, p3, p4, p5, p6, p7, p8, p9, p10, p11, p12, p13, p14, p15, p16, p17, p18, p19, p20, p21, p22, p23, p24, p25, p26, p27, p28, p29, if_true, if_false]
    rw [hf]
    simp (disch := first | omega | assumption) only [C.code_form_gos, T.tv, ↓reduceIte, Nat.reduceEqDiff, reduceCtorEq, Nat.reduceLeDiff, Nat.reducePow, Int.reducePow, Int.reduceToNat, Nat.reduceAdd, eq_false e16, eq_false e17, eq_false e18, eq_false e19, eq_false e20, eq_false e187, eq_false e189, eq_false e192, eq_false e193, eq_false e132, eq_false e198, eq_false e199, eq_false e200, eq_false e170, eq_false e171, eq_false e185, eq_false e188, eq_true e197, eq_false e196, eq_false e168, eq_false e169, eq_false e186, c0, c1, c2, c3, c4, c5, c6, c7, c8, decide_true, decide_false]
    try rfl
  by_cases p30 : op ≤ 198
  case pos =>
    have e16 : ¬ (op : Int) = 16 := by omega
    have e17 : ¬ (op : Int) = 17 := by omega
    have e18 : ¬ (op : Int) = 18 := by omega
    have e19 : ¬ (op : Int) = 19 := by omega
    have e20 : ¬ (op : Int) = 20 := by omega
    have e187 : ¬ (op : Int) = 187 := by omega
    have e189 : ¬ (op : Int) = 189 := by omega
    have e192 : ¬ (op : Int) = 192 := by omega
    have e193 : ¬ (op : Int) = 193 := by omega
    have e132 : ¬ (op : Int) = 132 := by omega
    have e198 : (op : Int) = 198 := by omega
    have e199 : ¬ (op : Int) = 199 := by omega
    have e200 : ¬ (op : Int) = 200 := by omega
    have e170 : ¬ (op : Int) = 170 := by omega
    have e171 : ¬ (op : Int) = 171 := by omega
    have e185 : ¬ (op : Int) = 185 := by omega
    have e188 : ¬ (op : Int) = 188 := by omega
    have e197 : ¬ (op : Int) = 197 := by omega
    have e196 : ¬ (op : Int) = 196 := by omega
    have e168 : ¬ (op : Int) = 168 := by omega
    have e169 : ¬ (op : Int) = 169 := by omega
    have e186 : ¬ (op : Int) = 186 := by omega
    have c0 : (178 : Int) ≤ (op : Int) := by omega
    have c1 : ¬ (op : Int) ≤ 184 := by omega
    have c2 : (21 : Int) ≤ (op : Int) := by omega
    have c3 : ¬ (op : Int) ≤ 25 := by omega
    have c4 : (54 : Int) ≤ (op : Int) := by omega
    have c5 : ¬ (op : Int) ≤ 58 := by omega
    have c6 : (153 : Int) ≤ (op : Int) := by omega
    have c7 : ¬ (op : Int) ≤ 167 := by omega
    have c8 : ¬ (200 : Int) < (op : Int) := by omega
    have hf : formS op = 8 := by simp only [formS, p0, p1, p2, p3, p4, p5, p6, p7, p8, p9, p10, p11, p12, p13, p14, p15, p16, p17, p18, p19, p20, p21, p22, p23, p24, p25, p26, p27, p28, p29, p30, if_true, if_false]
    rw [hf]
    simp (disch := first | omega | assumption) only [C.code_form_gos, T.tv, ↓reduceIte, Nat.reduceEqDiff, reduceCtorEq, Nat.reduceLeDiff, Nat.reducePow, Int.reducePow, Int.reduceToNat, Nat.reduceAdd, eq_false e16, eq_false e17, eq_false e18, eq_false e19, eq_false e20, eq_false e187, eq_false e189, eq_false e192, eq_false e193, eq_false e132, eq_true e198, eq_false e199, eq_false e200, eq_false e170, eq_false e171, eq_false e185, eq_false e188, eq_false e197, eq_false e196, eq_false e168, eq_false e169, eq_false e186, c0, c1, c2, c3, c4, c5, c6, c7, c8, decide_true, decide_false]
    try rfl
  by_cases p31 : op ≤ 199
  case pos =>
    have e16 : ¬ (op : Int) = 16 := by omega
    have e17 : ¬ (op : Int) = 17 := by omega
    have e18 : ¬ (op : Int) = 18 := by omega
    have e19 : ¬ (op : Int) = 19 := by omega
    have e20 : ¬ (op : Int) = 20 := by omega
    have e187 : ¬ (op : Int) = 187 := by omega
    have e189 : ¬ (op : Int) = 189 := by omega
    have e192 : ¬ (op : Int) = 192 := by omega
    have e193 : ¬ (op : Int) = 193 := by omega
    have e132 : ¬ (op : Int) = 132 := by omega
    have e198 : ¬ (op : Int) = 198 := by omega
    have e199 : (op : Int) = 199 := by omega
    have e200 : ¬ (op : Int) = 200 := by omega
    have e170 : ¬ (op : Int) = 170 := by omega
    have e171 : ¬ (op : Int) = 171 := by omega
    have e185 : ¬ (op : Int) = 185 := by omega
    have e188 : ¬ (op : Int) = 188 := by omega
    have e197 : ¬ (op : Int) = 197 := by omega
    have e196 : ¬ (op : Int) = 196 := by omega
    have e168 : ¬ (op : Int) = 168 := by omega
    have e169 : ¬ (op : Int) = 169 := by omega
    have e186 : ¬ (op : Int) = 186 := by omega
    have c0 : (178 : Int) ≤ (op : Int) := by omega
    have c1 : ¬ (op : Int) ≤ 184 := by omega
    have c2 : (21 : Int) ≤ (op : Int) := by omega
    have c3 : ¬ (op : Int) ≤ 25 := by omega
    have c4 : (54 : Int) ≤ (op : Int) := by omega
    have c5 : ¬ (op : Int) ≤ 58 := by omega
    have c6 : (153 : Int) ≤ (op : Int) := by omega
    have c7 : ¬ (op : Int) ≤ 167 := by omega
    have c8 : ¬ (200 : Int) < (op : Int) := by omega
    have hf : formS op = 8 := by simp only [formS, p0, p1, p2, p3, p4, p5, p6, p7, p8, p9, p10, p11, p12, p13, p14, p15, p16, p17, p18, p19, p20, p21, p22, p23, p24, p25, p26, p27, p28, p29, p30, p31, if_true, if_false]
    rw [hf]
    simp (disch := first | omega | assumption) only [C.code_form_gos, T.tv, ↓reduceIte, Nat.reduceEqDiff, reduceCtorEq, Nat.reduceLeDiff, Nat.reducePow, Int.reducePow, Int.reduceToNat, Nat.reduceAdd, eq_false e16, eq_false e17, eq_false e18, eq_false e19, eq_false e20, eq_false e187, eq_false e189, eq_false e192, eq_false e193, eq_false e132, eq_false e198, eq_true e199, eq_false e200, eq_false e170, eq_false e171, eq_false e185, eq_false e188, eq_false e197, eq_false e196, eq_false e168, eq_false e169, eq_false e186, c0, c1, c2, c3, c4, c5, c6, c7, c8, decide_true, decide_false]
    try rfl
  by_cases p32 : op ≤ 200
  case pos =>
    have e16 : ¬ (op : Int) = 16 := by omega
    have e17 : ¬ (op : Int) = 17 := by omega
    have e18 : ¬ (op : Int) = 18 := by omega
    have e19 : ¬ (op : Int) = 19 := by omega
    have e20 : ¬ (op : Int) = 20 := by omega
    have e187 : ¬ (op : Int) = 187 := by omega
    have e189 : ¬ (op : Int) = 189 := by omega
    have e192 : ¬ (op : Int) = 192 := by omega
    have e193 : ¬ (op : Int) = 193 := by omega
    have e132 : ¬ (op : Int) = 132 := by omega
    have e198 : ¬ (op : Int) = 198 := by omega
    have e199 : ¬ (op : Int) = 199 := by omega
    have e200 : (op : Int) = 200 := by omega
    have e170 : ¬ (op : Int) = 170 := by omega
    have e171 : ¬ (op : Int) = 171 := by omega
    have e185 : ¬ (op : Int) = 185 := by omega
    have e188 : ¬ (op : Int) = 188 := by omega
    have e197 : ¬ (op : Int) = 197 := by omega
    have e196 : ¬ (op : Int) = 196 := by omega
    have e168 : ¬ (op : Int) = 168 := by omega
    have e169 : ¬ (op : Int) = 169 := by omega
    have e186 : ¬ (op : Int) = 186 := by omega
    have c0 : (178 : Int) ≤ (op : Int) := by omega
    have c1 : ¬ (op : Int) ≤ 184 := by omega
    have c2 : (21 : Int) ≤ (op : Int) := by omega
    have c3 : ¬ (op : Int) ≤ 25 := by omega
    have c4 : (54 : Int) ≤ (op : Int) := by omega
    have c5 : ¬ (op : Int) ≤ 58 := by omega
    have c6 : (153 : Int) ≤ (op : Int) := by omega
    have c7 : ¬ (op : Int) ≤ 167 := by omega
    have c8 : ¬ (200 : Int) < (op : Int) := by omega
    have hf : formS op = 9 := by simp only [formS, p0, p1, p2, p3, p4, p5, p6, p7, p8, p9, p10, p11, p12, p13, p14, p15, p16, p17, p18, p19, p20, p21, p22, p23, p24, p25, p26, p27, p28, p29, p30, p31, p32, if_true, if_false]
    rw [hf]
    simp (disch := first | omega | assumption) only [C.code_form_gos, T.tv, ↓reduceIte, Nat.reduceEqDiff, reduceCtorEq, Nat.reduceLeDiff, Nat.reducePow, Int.reducePow, Int.reduceToNat, Nat.reduceAdd, eq_false e16, eq_false e17, eq_false e18, eq_false e19, eq_false e20, eq_false e187, eq_false e189, eq_false e192, eq_false e193, eq_false e132, eq_false e198, eq_false e199, eq_true e200, eq_false e170, eq_false e171, eq_false e185, eq_false e188, eq_false e197, eq_false e196, eq_false e168, eq_false e169, eq_false e186, c0, c1, c2, c3, c4, c5, c6, c7, c8, decide_true, decide_false]
    try rfl
  by_cases p33 : op ≤ 255
  case pos =>
    have e16 : ¬ (op : Int) = 16 := by omega
    have e17 : ¬ (op : Int) = 17 := by omega
    have e18 : ¬ (op : Int) = 18 := by omega
    have e19 : ¬ (op : Int) = 19 := by omega
    have e20 : ¬ (op : Int) = 20 := by omega
    have e187 : ¬ (op : Int) = 187 := by omega
    have e189 : ¬ (op : Int) = 189 := by omega
    have e192 : ¬ (op : Int) = 192 := by omega
    have e193 : ¬ (op : Int) = 193 := by omega
    have e132 : ¬ (op : Int) = 132 := by omega
    have e198 : ¬ (op : Int) = 198 := by omega
    have e199 : ¬ (op : Int) = 199 := by omega
    have e200 : ¬ (op : Int) = 200 := by omega
    have e170 : ¬ (op : Int) = 170 := by omega
    have e171 : ¬ (op : Int) = 171 := by omega
    have e185 : ¬ (op : Int) = 185 := by omega
    have e188 : ¬ (op : Int) = 188 := by omega
    have e197 : ¬ (op : Int) = 197 := by omega
    have e196 : ¬ (op : Int) = 196 := by omega
    have e168 : ¬ (op : Int) = 168 := by omega
    have e169 : ¬ (op : Int) = 169 := by omega
    have e186 : ¬ (op : Int) = 186 := by omega
    have c0 : (178 : Int) ≤ (op : Int) := by omega
    have c1 : ¬ (op : Int) ≤ 184 := by omega
    have c2 : (21 : Int) ≤ (op : Int) := by omega
    have c3 : ¬ (op : Int) ≤ 25 := by omega
    have c4 : (54 : Int) ≤ (op : Int) := by omega
    have c5 : ¬ (op : Int) ≤ 58 := by omega
    have c6 : (153 : Int) ≤ (op : Int) := by omega
    have c7 : ¬ (op : Int) ≤ 167 := by omega
    have c8 : (200 : Int) < (op : Int) := by omega
    have hf : formS op = 1 := by simp only [formS, p0, p1, p2, p3, p4, p5, p6, p7, p8, p9, p10, p11, p12, p13, p14, p15, p16, p17, p18, p19, p20, p21, p22, p23, p24, p25, p26, p27, p28, p29, p30, p31, p32, p33, if_true, if_false]
    rw [hf]
    simp (disch := first | omega | assumption) only [C.code_form_gos, T.tv, ↓reduceIte, Nat.reduceEqDiff, reduceCtorEq, Nat.reduceLeDiff, Nat.reducePow, Int.reducePow, Int.reduceToNat, Nat.reduceAdd, eq_false e16, eq_false e17, eq_false e18, eq_false e19, eq_false e20, eq_false e187, eq_false e189, eq_false e192, eq_false e193, eq_false e132, eq_false e198, eq_false e199, eq_false e200, eq_false e170, eq_false e171, eq_false e185, eq_false e188, eq_false e197, eq_false e196, eq_false e168, eq_false e169, eq_false e186, c0, c1, c2, c3, c4, c5, c6, c7, c8, decide_true, decide_false]
    try rfl
  omega
end Go.Proofs.YtgdmoimclelfhaaDoor

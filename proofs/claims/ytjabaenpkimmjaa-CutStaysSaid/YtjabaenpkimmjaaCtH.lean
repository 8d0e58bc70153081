/- Cut in K: a step, the document's way. -/
import Derived.Test.YtjabaenpkimmjaaCtG
import Derived.Test.YtjabaenpkimmjaaCtD
import Derived.Test.YtjabaenpkimmjaaKTk
namespace Go.Proofs.Ytjabaenpkimmjaa
set_option linter.unusedSimpArgs false
set_option linter.unusedVariables false
open Go.RowKit
theorem timesT_len (p : Int) (t : List Tm) : (timesT p t).length = t.length := List.length_map ..
def lv_trammel_trammelref01_Times : Nat → List Nat
  | 0 => [0, 1]
  | 1 => [1, 2]
  | 2 => [1, 2, 5]
  | 3 => [1, 2, 5, 6]
  | 4 => [1, 2, 5, 6]
  | 5 => [1, 2, 5, 6]
  | 6 => [5]
  | _ => []
def resR (q : Nat × Ln) : AV := .tup [.agg (if q.1 = 0 then lnA q.2 else [inA 0, .sl [] 0 .full]), inA (q.1 : Int)]
theorem resR_n {e : Nat} (h : e ≠ 0) (l : Ln) : resR (e, l) = .tup [.agg [inA 0, .sl [] 0 .full], inA (e : Int)] := by unfold resR; rw [if_neg h]
theorem resR_0 (l : Ln) : resR (0, l) = .tup [.agg (lnA l), inA 0] := rfl
theorem resR_1 (l : Ln) : resR (1, l) = .tup [.agg [inA 0, .sl [] 0 .full], inA 1] := rfl
theorem resR_2 (l : Ln) : resR (2, l) = .tup [.agg [inA 0, .sl [] 0 .full], inA 2] := rfl
theorem resR_3 (l : Ln) : resR (3, l) = .tup [.agg [inA 0, .sl [] 0 .full], inA 3] := rfl
theorem resR_6 (l : Ln) : resR (6, l) = .tup [.agg [inA 0, .sl [] 0 .full], inA 6] := rfl
theorem resR_7 (l : Ln) : resR (7, l) = .tup [.agg [inA 0, .sl [] 0 .full], inA 7] := rfl
theorem upZ_bd (a g : Int) : -(a.natAbs : Int) ≤ upZ a g ∧ upZ a g ≤ (a.natAbs : Int) + 1 := by
  have := tdiv_bd a g
  unfold upZ
  split <;> omega
def lv_trammel_trammelref04_step : Nat → List Nat
  | 0 => [0, 1]
  | 1 => [0, 3, 4]
  | 2 => [4]
  | 3 => [0, 3, 4]
  | 4 => [0, 3, 4, 6]
  | 5 => [0, 3, 4, 6, 7]
  | 6 => [0, 3, 4, 6, 7, 8]
  | 7 => [0, 3, 4, 6, 7, 8]
  | 8 => [0, 3, 4, 6, 7, 8]
  | 9 => [0, 3, 4, 6, 7, 8, 9]
  | 10 => [4]
  | 11 => [0, 3, 4, 6, 7, 8, 9]
  | 12 => [4]
  | 13 => [0, 3, 4, 6, 7, 8, 9]
  | 14 => [0, 3, 4, 6, 7, 8, 9]
  | 15 => [3, 4, 6, 7]
  | 16 => [4]
  | 17 => [3, 4, 6, 7]
  | 18 => [3, 4, 6, 7, 10]
  | 19 => [3, 4, 6, 7, 10, 11]
  | 20 => [3, 4, 7, 10, 11, 12]
  | 21 => [3, 4, 7, 10, 11, 12, 13]
  | 22 => [3, 4, 7, 10, 11, 12, 13, 14]
  | 23 => [3, 4, 7, 10, 11, 12, 13, 14, 15]
  | 24 => [3, 4, 7, 10, 11, 12, 13, 14, 15, 16]
  | 25 => [3, 4, 7, 10, 11, 12, 13, 14, 15, 16]
  | 26 => [3, 4, 7, 10, 11, 12, 13, 14, 15, 16]
  | 27 => [3, 4, 7, 10, 11, 12, 13, 14, 16]
  | 28 => [3, 4, 7, 10, 11, 12, 13, 15]
  | 29 => [3, 4, 7, 10, 11, 12, 13, 15]
  | 30 => [3, 4, 7, 10, 11, 12, 13, 15, 17]
  | 31 => [3, 4, 7, 10, 11, 12, 13, 15, 17, 18]
  | 32 => [3, 4, 7, 10, 11, 12, 13, 15, 17, 18]
  | 33 => [3, 4, 7, 10, 11, 12, 13, 15, 17, 18]
  | 34 => [3, 4, 7, 10, 11, 12, 13, 15, 17, 18]
  | 35 => [3, 4, 7, 10, 11, 12, 13, 15, 17]
  | 36 => [3, 4, 7, 10, 11, 12, 13, 14, 15, 17]
  | 37 => [3, 4, 7, 10, 11, 12, 13, 14, 15, 17]
  | 38 => [3, 4, 7, 10, 11, 12, 13, 14, 15, 17]
  | 39 => [3, 4, 7, 10, 11, 12, 13, 14, 15, 17]
  | 40 => [3, 4, 7, 10, 11, 12, 13, 14, 15, 17]
  | 41 => [4, 10, 11, 12, 13]
  | 42 => [4]
  | 43 => [4, 11, 12, 13]
  | 44 => [4]
  | 45 => [4, 12, 13]
  | 46 => [4]
  | 47 => [4, 12]
  | 48 => [4]
  | 49 => [4, 12]
  | _ => []
end Go.Proofs.Ytjabaenpkimmjaa

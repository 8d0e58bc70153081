/- Cert: the laid variable of the rows that tell errors. -/
import Derived.Test.YtiiaokjgbjhfhaaGreatDoorZ41
import Derived.Test.YtiiaokjgbjhfhaaGreatDoorZ10
import Derived.Test.YtiiaokjgbjhfhaaGreatDoorZ6
import Derived.LaidLaws
import Derived.LaidHandle
import Derived.LaidMore
namespace Go.Proofs.YtiiaokjgbjhfhaaGreatDoor
set_option linter.unusedSimpArgs false
set_option linter.unusedVariables false
open Go.RowKit Go.ChangeShapes Go.WideShapes
theorem lj {w : World} {g : Nat} {v : Value} {x : AV} (hc : w.cell? ⟨g,0,none⟩ = some v) (h1 : v.oneCell' = true) (h : PRel (fz w) v x) : PRel (fz w) (.pointer (some ⟨g,0,none⟩)) (.rf [x] 0) :=
 .rf g 0 0 [x] (fun _ => v) (fun j hj => by
  obtain rfl : j = 0 := by simpa using hj
  exact mh hc h1) fun j hj => by
  obtain rfl : j = 0 := by simpa using hj
  exact h
theorem qO : Tryz.prog.globalNamed "errors.errorType" = some 0 := by kernel_rfl
theorem rt_row : (Tryz.prog.cutTypes.find? (·.1 == "internal/reflectlite.rtype")).map (·.2) = some 129 := by kernel_rfl
theorem oe : ((List.range Tryz.prog.types.size).filter fun t => Tryz.prog.rowNamed t [101,114,114,111,114]) = [26] := by kernel_rfl
theorem od : typeHandle Tryz.prog 26 = .pointer (some ⟨1,26,none⟩) := by kernel_rfl
abbrev qh : List (String × DataW Unit) := [("errors.errorType",Rows.laid_errors_errorType)]
theorem lQ {W : World} (h : laidMetH Tryz.prog qh W) : Gl (fz W) := by
 have h' : laidMet Tryz.prog [] W ∧ handlesMet Tryz.prog [("errors.errorType",Rows.laid_errors_errorType)] W := h
 obtain ⟨h1,h2⟩ := h'
 obtain ⟨name,u,ty,e1,e2,e3,e4,e5⟩ := h2 _ (List.mem_singleton.2 rfl)
 have en : name = [101,114,114,111,114] := (Option.some.inj e1).symm
 subst en
 obtain rfl := Option.some.inj (rt_row.symm.trans e2)
 have hm : ty ∈ (List.range Tryz.prog.types.size).filter fun t => Tryz.prog.rowNamed t [101,114,114,111,114] := List.mem_filter.2 ⟨List.mem_range.2 e3,e4⟩
 rw [oe] at hm
 obtain rfl := List.mem_singleton.1 hm
 rw [od] at e5
 have hc0 := World.var?_cell qO e5 0
 intro g cs hg
 unfold lR at hg
 split at hg
 ·rename_i e
  subst e
  cases hg
  refine lj (v := .iface 129 (.agg #[.pointer (some ⟨1,26,none⟩)])) (by simpa using hc0) rfl (.ifc _ _ _ (.agg _ _ rfl (fun j hj => ?_) fun j hj => ?_))
  ·obtain rfl : j = 0 := by simpa using hj
   rfl
  ·obtain rfl : j = 0 := by simpa using hj
   exact .c _
 ·cases hg
end Go.Proofs.YtiiaokjgbjhfhaaGreatDoor

/- Cut: lines and steps, read as arguments; the laid variable. -/
import Derived.Test.YtijpbgflkdjcdaaDoorCtO
import Derived.Test.YtijpbgflkdjcdaaDoorKR
import Derived.LaidLaws
import Derived.LaidHandle
import Derived.LaidMore
namespace Go.Proofs.YtijpbgflkdjcdaaDoor
set_option linter.unusedSimpArgs false
set_option linter.unusedVariables false
open Go.RowKit Go.ChangeShapes Go.WideShapes
instance : Inhabited Ln := ⟨⟨0, []⟩⟩
instance : Inhabited Stp := ⟨⟨[], 0⟩⟩
section
variable {H : Type} {enc : TypeId × Value → H} {w : World} {base : Nat} {spare : Nat → Bool} {held : Bool}
theorem lg_of {α : Type} {l : List α} {b : Nat} (hb : 0 < b) (h : l.length * b ≤ 140737488351232) : Lg l := by
  have := Nat.le_mul_of_pos_right l.length hb
  unfold Lg; omega
theorem rd_z (fuel : Nat) : Reads enc Tryd.prog w base spare held 3 (fun z : Int => [inA z]) (fun z => -9223372036854775808 ≤ z ∧ z ≤ 9223372036854775807) fuel := reads_i64 Tryd.underlying3 fuel
theorem rd_mono (fuel : Nat) : Reads enc Tryd.prog w base spare held 46 tmA (fun _ => True) fuel :=
  (reads_struct2 Tryd.underlying46 rfl (n0 := 1) (by kernel_rfl) rfl (n1 := 1) (by kernel_rfl) (by kernel_rfl) (fun n _ => rd_z n) (fun n _ => rd_z n)).map id (fun _ => rfl) fun _ _ => trivial
theorem rd_part (fuel : Nat) : Reads enc Tryd.prog w base spare held 41 tmA (fun _ => True) fuel :=
  (reads_struct2 Tryd.underlying41 rfl (n0 := 1) (by kernel_rfl) rfl (n1 := 1) (by kernel_rfl) (by kernel_rfl) (fun n _ => rd_z n) (fun n _ => rd_z n)).map id (fun _ => rfl) fun _ _ => trivial
theorem rd_lin (fuel : Nat) : Reads enc Tryd.prog w base spare held 49 lnA (fun l => l.t.length ≤ 8796093022207) fuel :=
  (reads_struct2 Tryd.underlying49 rfl (n0 := 1) (by kernel_rfl) rfl (n1 := 1) (by kernel_rfl) (by kernel_rfl) (fun n _ => rd_z n)
    (fun n _ => reads_slice Tryd.underlying47 (s := 2) (by kernel_rfl) (of_decide_eq_true (by kernel_rfl)) (by decide) (fun _ => rfl) fun n _ => rd_mono n)).map (fun p => (⟨p.1, p.2⟩ : Ln)) (fun p => by show [inA p.1, AV.sl (cellsM p.2) p.2.length .none] = _; rw [cellsM_fm]; rfl)
    fun p h => by have := h.2.2; rw [show Tryd.prog.bytesOf 46 = 16 by kernel_rfl] at this; simp only; omega
theorem rd_step (fuel : Nat) : Reads enc Tryd.prog w base spare held 39 stpA (fun s => Lg s.parts) fuel :=
  (reads_struct2 Tryd.underlying39 rfl (n0 := 1) (by kernel_rfl) rfl (n1 := 1) (by kernel_rfl) (by kernel_rfl)
    (fun n _ => reads_slice Tryd.underlying37 (s := 2) (by kernel_rfl) (of_decide_eq_true (by kernel_rfl)) (by decide) (fun _ => rfl) fun n _ => rd_part n) (fun n _ => rd_z n)).map (fun p => (⟨p.1, p.2⟩ : Stp)) (fun p => by show [AV.sl (cellsM p.1) p.1.length .none, inA p.2] = _; rw [cellsM_fm]; rfl)
    fun _ h => lg_of (of_decide_eq_true (by kernel_rfl)) h.1.2
theorem rd_lins (fuel : Nat) : Reads enc Tryd.prog w base spare held 22 (fun l => [lnsA l]) OkPs fuel :=
  (reads_slice Tryd.underlying22 (s := 2) (by kernel_rfl) (of_decide_eq_true (by kernel_rfl)) (by decide) (fun _ => rfl) fun n _ => rd_lin n).map id (fun _ => rfl) fun _ h => ⟨lg_of (of_decide_eq_true (by kernel_rfl)) h.2, h.1⟩
theorem rd_steps (fuel : Nat) : Reads enc Tryd.prog w base spare held 23 (fun l => [stpsA l]) OkSs fuel :=
  (reads_slice Tryd.underlying23 (s := 2) (by kernel_rfl) (of_decide_eq_true (by kernel_rfl)) (by decide) (fun _ => rfl) fun n _ => rd_step n).map id (fun _ => rfl) fun _ h => ⟨lg_of (of_decide_eq_true (by kernel_rfl)) h.2, h.1⟩
end
/-! ### The laid variable. -/
theorem rf_of_cell {w : World} {g : Nat} {v : Value} {x : AV} (hc : w.cell? ⟨g, 0, none⟩ = some v) (h1 : v.oneCell' = true) (h : PRel (Ztot w) v x) : PRel (Ztot w) (.pointer (some ⟨g, 0, none⟩)) (.rf [x] 0) :=
  .rf g 0 0 [x] (fun _ => v) (fun j hj => by
    obtain rfl : j = 0 := by simpa using hj
    exact ztot_of hc h1) fun j hj => by
    obtain rfl : j = 0 := by simpa using hj
    exact h
theorem g_err : Tryd.prog.globalNamed "errors.errorType" = some 0 := by kernel_rfl
theorem rt_row : (Tryd.prog.cutTypes.find? (·.1 == "internal/reflectlite.rtype")).map (·.2) = some 93 := by kernel_rfl
theorem err_row : ((List.range Tryd.prog.types.size).filter fun t => Tryd.prog.rowNamed t [101, 114, 114, 111, 114]) = [27] := by kernel_rfl
theorem err_hnd : typeHandle Tryd.prog 27 = .pointer (some ⟨1, 27, none⟩) := by kernel_rfl
abbrev laid04 : List (String × DataW Unit) := [("errors.errorType", Rows.laid_errors_errorType)]
theorem gl_laid {W : World} (h : laidMetH Tryd.prog laid04 W) : Gl (Ztot W) := by
  have h' : laidMet Tryd.prog [] W ∧ handlesMet Tryd.prog [("errors.errorType", Rows.laid_errors_errorType)] W := h
  obtain ⟨h1, h2⟩ := h'
  obtain ⟨name, u, ty, e1, e2, e3, e4, e5⟩ := h2 _ (List.mem_singleton.2 rfl)
  have en : name = [101, 114, 114, 111, 114] := (Option.some.inj e1).symm
  subst en
  obtain rfl := Option.some.inj (rt_row.symm.trans e2)
  have hm : ty ∈ (List.range Tryd.prog.types.size).filter fun t => Tryd.prog.rowNamed t [101, 114, 114, 111, 114] := List.mem_filter.2 ⟨List.mem_range.2 e3, e4⟩
  rw [err_row] at hm
  obtain rfl := List.mem_singleton.1 hm
  rw [err_hnd] at e5
  have hc0 := World.var?_cell g_err e5 0
  intro g cs hg
  unfold globA at hg
  split at hg
  · rename_i e
    subst e
    cases hg
    refine rf_of_cell (v := .iface 93 (.agg #[.pointer (some ⟨1, 27, none⟩)])) (by simpa using hc0) rfl (.ifc _ _ _ (.agg _ _ rfl (fun j hj => ?_) fun j hj => ?_))
    · obtain rfl : j = 0 := by simpa using hj
      rfl
    · obtain rfl : j = 0 := by simpa using hj
      exact .c _
  · cases hg
end Go.Proofs.YtijpbgflkdjcdaaDoor

/- What K asks of the types and functions of this seat, as closed facts. Printed by program. -/
import Derived.Test.YtkjnkkmokojnpaaGreatDoorZ3
import Derived.Test.YtkjnkkmokojnpaaGreatDoorProg
namespace Go.Proofs.YtkjnkkmokojnpaaGreatDoor
set_option linter.unusedSimpArgs false
@[go_sem] theorem kk2 : cW Tryz.prog 0 = some 1 ∧ dl Tryz.prog 0 = true ∧ ct Tryz.prog 0 = some false ∧ (Tryz.prog.underlying 0).isSome = true ∧ aV Tryz.prog 0 = true ∧ bG Tryz.prog 0 = false ∧ bH Tryz.prog 0 = none ∧ aZ Tryz.prog 0 = 0 ∧ bA Tryz.prog 0 = none := by and_intros <;> kernel_rfl
@[go_sem] theorem kk3 : cW Tryz.prog 1 = some 1 ∧ dl Tryz.prog 1 = true ∧ ct Tryz.prog 1 = some false ∧ (Tryz.prog.underlying 1).isSome = true ∧ aV Tryz.prog 1 = true ∧ bG Tryz.prog 1 = false ∧ bH Tryz.prog 1 = none ∧ aZ Tryz.prog 1 = 8 ∧ bA Tryz.prog 1 = none ∧ bM Tryz.prog 1 = some [.nilFunc] := by and_intros <;> kernel_rfl
@[go_sem] theorem kk4 : cW Tryz.prog 2 = some 1 ∧ dl Tryz.prog 2 = true ∧ ct Tryz.prog 2 = some false ∧ (Tryz.prog.underlying 2).isSome = true ∧ aV Tryz.prog 2 = true ∧ bG Tryz.prog 2 = false ∧ bH Tryz.prog 2 = some .i64 ∧ aZ Tryz.prog 2 = 8 ∧ bA Tryz.prog 2 = none ∧ bM Tryz.prog 2 = some [.int .i64 0] := by and_intros <;> kernel_rfl
@[go_sem] theorem kk5 : cW Tryz.prog 3 = some 1 ∧ dl Tryz.prog 3 = true ∧ ct Tryz.prog 3 = some false ∧ (Tryz.prog.underlying 3).isSome = true ∧ aV Tryz.prog 3 = true ∧ bG Tryz.prog 3 = false ∧ bH Tryz.prog 3 = some .i64 ∧ aZ Tryz.prog 3 = 8 ∧ bA Tryz.prog 3 = none ∧ bM Tryz.prog 3 = some [.int .i64 0] := by and_intros <;> kernel_rfl
@[go_sem] theorem kk6 : cW Tryz.prog 4 = some 1 ∧ dl Tryz.prog 4 = true ∧ ct Tryz.prog 4 = some false ∧ (Tryz.prog.underlying 4).isSome = true ∧ aV Tryz.prog 4 = true ∧ bG Tryz.prog 4 = false ∧ bH Tryz.prog 4 = none ∧ aZ Tryz.prog 4 = 1 ∧ bA Tryz.prog 4 = none ∧ bM Tryz.prog 4 = some [.bool false] := by and_intros <;> kernel_rfl
@[go_sem] theorem kk7 : cW Tryz.prog 5 = some 1 ∧ dl Tryz.prog 5 = true ∧ ct Tryz.prog 5 = some false ∧ (Tryz.prog.underlying 5).isSome = true ∧ aV Tryz.prog 5 = true ∧ bG Tryz.prog 5 = false ∧ bH Tryz.prog 5 = some .u8 ∧ aZ Tryz.prog 5 = 1 ∧ bA Tryz.prog 5 = none ∧ bM Tryz.prog 5 = some [.int .u8 0] := by and_intros <;> kernel_rfl
@[go_sem] theorem kk8 : cW Tryz.prog 6 = some 1 ∧ dl Tryz.prog 6 = true ∧ ct Tryz.prog 6 = some false ∧ (Tryz.prog.underlying 6).isSome = true ∧ aV Tryz.prog 6 = true ∧ bG Tryz.prog 6 = false ∧ bH Tryz.prog 6 = some .u8 ∧ aZ Tryz.prog 6 = 1 ∧ bA Tryz.prog 6 = none ∧ bM Tryz.prog 6 = some [.int .u8 0] := by and_intros <;> kernel_rfl
@[go_sem] theorem kk9 : cW Tryz.prog 7 = some 4 ∧ dl Tryz.prog 7 = true ∧ ct Tryz.prog 7 = some true ∧ (Tryz.prog.underlying 7).isSome = true ∧ aV Tryz.prog 7 = true ∧ bG Tryz.prog 7 = false ∧ bH Tryz.prog 7 = none ∧ aZ Tryz.prog 7 = 24 ∧ bA Tryz.prog 7 = none ∧ bM Tryz.prog 7 = some [.int .i64 0,.int .i64 0,.bool false,.int .u8 0] ∧ bQ Tryz.prog 7 0 = some (0,2) ∧ bQ Tryz.prog 7 1 = some (1,3) ∧ bQ Tryz.prog 7 2 = some (2,4) ∧ bQ Tryz.prog 7 3 = some (3,6) ∧ ee Tryz.prog 7 = some [(0,1),(1,1),(2,1),(3,1)] := by and_intros <;> kernel_rfl
@[go_sem] theorem Ib : cW Tryz.prog 8 = some 4 ∧ dl Tryz.prog 8 = true ∧ ct Tryz.prog 8 = some true ∧ (Tryz.prog.underlying 8).isSome = true ∧ aV Tryz.prog 8 = true ∧ bG Tryz.prog 8 = false ∧ bH Tryz.prog 8 = none ∧ aZ Tryz.prog 8 = 24 ∧ bA Tryz.prog 8 = none ∧ bM Tryz.prog 8 = some [.int .i64 0,.int .i64 0,.bool false,.int .u8 0] ∧ bQ Tryz.prog 8 0 = some (0,2) ∧ bQ Tryz.prog 8 1 = some (1,3) ∧ bQ Tryz.prog 8 2 = some (2,4) ∧ bQ Tryz.prog 8 3 = some (3,6) ∧ ee Tryz.prog 8 = some [(0,1),(1,1),(2,1),(3,1)] := by and_intros <;> kernel_rfl
@[go_sem] theorem Ic : cW Tryz.prog 9 = some 1 ∧ dl Tryz.prog 9 = true ∧ ct Tryz.prog 9 = some false ∧ (Tryz.prog.underlying 9).isSome = true ∧ aV Tryz.prog 9 = true ∧ bG Tryz.prog 9 = true ∧ bH Tryz.prog 9 = none ∧ aZ Tryz.prog 9 = 16 ∧ bA Tryz.prog 9 = none ∧ bM Tryz.prog 9 = some [.string ⟨#[]⟩] := by and_intros <;> kernel_rfl
@[go_sem] theorem Id : cW Tryz.prog 10 = some 1 ∧ dl Tryz.prog 10 = true ∧ ct Tryz.prog 10 = some false ∧ (Tryz.prog.underlying 10).isSome = true ∧ aV Tryz.prog 10 = true ∧ bG Tryz.prog 10 = true ∧ bH Tryz.prog 10 = none ∧ aZ Tryz.prog 10 = 16 ∧ bA Tryz.prog 10 = none ∧ bM Tryz.prog 10 = some [.string ⟨#[]⟩] := by and_intros <;> kernel_rfl
@[go_sem] theorem Ie : cW Tryz.prog 11 = some 1 ∧ dl Tryz.prog 11 = true ∧ ct Tryz.prog 11 = some false ∧ (Tryz.prog.underlying 11).isSome = true ∧ aV Tryz.prog 11 = true ∧ bG Tryz.prog 11 = true ∧ bH Tryz.prog 11 = none ∧ aZ Tryz.prog 11 = 16 ∧ bA Tryz.prog 11 = none ∧ bM Tryz.prog 11 = some [.string ⟨#[]⟩] := by and_intros <;> kernel_rfl
@[go_sem] theorem If : cW Tryz.prog 12 = some 1 ∧ dl Tryz.prog 12 = true ∧ ct Tryz.prog 12 = some false ∧ (Tryz.prog.underlying 12).isSome = true ∧ aV Tryz.prog 12 = true ∧ bG Tryz.prog 12 = false ∧ bH Tryz.prog 12 = some .u64 ∧ aZ Tryz.prog 12 = 8 ∧ bA Tryz.prog 12 = none ∧ bM Tryz.prog 12 = some [.int .u64 0] := by and_intros <;> kernel_rfl
@[go_sem] theorem Ig : cW Tryz.prog 13 = some 2 ∧ dl Tryz.prog 13 = true ∧ ct Tryz.prog 13 = some true ∧ (Tryz.prog.underlying 13).isSome = true ∧ aV Tryz.prog 13 = true ∧ bG Tryz.prog 13 = false ∧ bH Tryz.prog 13 = none ∧ aZ Tryz.prog 13 = 24 ∧ bA Tryz.prog 13 = none ∧ bM Tryz.prog 13 = some [.string ⟨#[]⟩,.int .u64 0] ∧ bQ Tryz.prog 13 0 = some (0,9) ∧ bQ Tryz.prog 13 1 = some (1,12) ∧ ee Tryz.prog 13 = some [(0,1),(1,1)] := by and_intros <;> kernel_rfl
@[go_sem] theorem Ih : cW Tryz.prog 14 = some 2 ∧ dl Tryz.prog 14 = true ∧ ct Tryz.prog 14 = some true ∧ (Tryz.prog.underlying 14).isSome = true ∧ aV Tryz.prog 14 = true ∧ bG Tryz.prog 14 = false ∧ bH Tryz.prog 14 = none ∧ aZ Tryz.prog 14 = 24 ∧ bA Tryz.prog 14 = none ∧ bM Tryz.prog 14 = some [.string ⟨#[]⟩,.int .u64 0] ∧ bQ Tryz.prog 14 0 = some (0,9) ∧ bQ Tryz.prog 14 1 = some (1,12) ∧ ee Tryz.prog 14 = some [(0,1),(1,1)] := by and_intros <;> kernel_rfl
@[go_sem] theorem Ii : cW Tryz.prog 15 = some 1 ∧ dl Tryz.prog 15 = true ∧ ct Tryz.prog 15 = some false ∧ (Tryz.prog.underlying 15).isSome = true ∧ aV Tryz.prog 15 = true ∧ bG Tryz.prog 15 = false ∧ bH Tryz.prog 15 = none ∧ aZ Tryz.prog 15 = 8 ∧ bA Tryz.prog 15 = none ∧ bM Tryz.prog 15 = some [.pointer none] := by and_intros <;> kernel_rfl
@[go_sem] theorem Ij : cW Tryz.prog 16 = some 1 ∧ dl Tryz.prog 16 = true ∧ ct Tryz.prog 16 = some false ∧ (Tryz.prog.underlying 16).isSome = true ∧ aV Tryz.prog 16 = true ∧ bG Tryz.prog 16 = false ∧ bH Tryz.prog 16 = none ∧ aZ Tryz.prog 16 = 8 ∧ bA Tryz.prog 16 = none ∧ bM Tryz.prog 16 = some [.pointer none] := by and_intros <;> kernel_rfl
@[go_sem] theorem Ik : cW Tryz.prog 17 = some 1 ∧ dl Tryz.prog 17 = true ∧ ct Tryz.prog 17 = some false ∧ (Tryz.prog.underlying 17).isSome = true ∧ aV Tryz.prog 17 = true ∧ bG Tryz.prog 17 = false ∧ bH Tryz.prog 17 = none ∧ aZ Tryz.prog 17 = 8 ∧ bA Tryz.prog 17 = none ∧ bM Tryz.prog 17 = some [.pointer none] := by and_intros <;> kernel_rfl
@[go_sem] theorem Il : cW Tryz.prog 18 = some 1 ∧ dl Tryz.prog 18 = true ∧ ct Tryz.prog 18 = some true ∧ (Tryz.prog.underlying 18).isSome = true ∧ aV Tryz.prog 18 = true ∧ bG Tryz.prog 18 = false ∧ bH Tryz.prog 18 = none ∧ aZ Tryz.prog 18 = 8 ∧ bA Tryz.prog 18 = none ∧ bM Tryz.prog 18 = some [.pointer none] ∧ bQ Tryz.prog 18 0 = some (0,17) ∧ ee Tryz.prog 18 = some [(0,1)] := by and_intros <;> kernel_rfl
@[go_sem] theorem Im : cW Tryz.prog 19 = some 1 ∧ dl Tryz.prog 19 = true ∧ ct Tryz.prog 19 = some true ∧ (Tryz.prog.underlying 19).isSome = true ∧ aV Tryz.prog 19 = true ∧ bG Tryz.prog 19 = false ∧ bH Tryz.prog 19 = none ∧ aZ Tryz.prog 19 = 8 ∧ bA Tryz.prog 19 = none ∧ bM Tryz.prog 19 = some [.pointer none] ∧ bQ Tryz.prog 19 0 = some (0,17) ∧ ee Tryz.prog 19 = some [(0,1)] := by and_intros <;> kernel_rfl
@[go_sem] theorem In : cW Tryz.prog 20 = some 1 ∧ dl Tryz.prog 20 = true ∧ ct Tryz.prog 20 = some false ∧ (Tryz.prog.underlying 20).isSome = true ∧ aV Tryz.prog 20 = false ∧ bG Tryz.prog 20 = false ∧ bH Tryz.prog 20 = none ∧ aZ Tryz.prog 20 = 16 ∧ bA Tryz.prog 20 = none ∧ bM Tryz.prog 20 = some [.nilIface] := by and_intros <;> kernel_rfl
@[go_sem] theorem Io : cW Tryz.prog 21 = some 1 ∧ dl Tryz.prog 21 = true ∧ ct Tryz.prog 21 = some false ∧ (Tryz.prog.underlying 21).isSome = true ∧ aV Tryz.prog 21 = true ∧ bG Tryz.prog 21 = false ∧ bH Tryz.prog 21 = some .i32 ∧ aZ Tryz.prog 21 = 4 ∧ bA Tryz.prog 21 = none ∧ bM Tryz.prog 21 = some [.int .i32 0] := by and_intros <;> kernel_rfl
@[go_sem] theorem Ip : cW Tryz.prog 22 = some 1 ∧ dl Tryz.prog 22 = true ∧ ct Tryz.prog 22 = some false ∧ (Tryz.prog.underlying 22).isSome = true ∧ aV Tryz.prog 22 = true ∧ bG Tryz.prog 22 = false ∧ bH Tryz.prog 22 = none ∧ aZ Tryz.prog 22 = 24 ∧ bA Tryz.prog 22 = some 59 ∧ bM Tryz.prog 22 = some [.slice none 0 0] := by and_intros <;> kernel_rfl
@[go_sem] theorem Iq : cW Tryz.prog 23 = some 1 ∧ dl Tryz.prog 23 = true ∧ ct Tryz.prog 23 = some true ∧ (Tryz.prog.underlying 23).isSome = true ∧ aV Tryz.prog 23 = true ∧ bG Tryz.prog 23 = false ∧ bH Tryz.prog 23 = none ∧ aZ Tryz.prog 23 = 24 ∧ bA Tryz.prog 23 = none ∧ bM Tryz.prog 23 = some [.slice none 0 0] ∧ bQ Tryz.prog 23 0 = some (0,22) ∧ ee Tryz.prog 23 = some [(0,1)] := by and_intros <;> kernel_rfl
@[go_sem] theorem Ir : cW Tryz.prog 24 = some 1 ∧ dl Tryz.prog 24 = true ∧ ct Tryz.prog 24 = some true ∧ (Tryz.prog.underlying 24).isSome = true ∧ aV Tryz.prog 24 = true ∧ bG Tryz.prog 24 = false ∧ bH Tryz.prog 24 = none ∧ aZ Tryz.prog 24 = 24 ∧ bA Tryz.prog 24 = none ∧ bM Tryz.prog 24 = some [.slice none 0 0] ∧ bQ Tryz.prog 24 0 = some (0,22) ∧ ee Tryz.prog 24 = some [(0,1)] := by and_intros <;> kernel_rfl
@[go_sem] theorem Is : cW Tryz.prog 25 = some 1 ∧ dl Tryz.prog 25 = true ∧ ct Tryz.prog 25 = some false ∧ (Tryz.prog.underlying 25).isSome = true ∧ aV Tryz.prog 25 = true ∧ bG Tryz.prog 25 = false ∧ bH Tryz.prog 25 = none ∧ aZ Tryz.prog 25 = 8 ∧ bA Tryz.prog 25 = none ∧ bM Tryz.prog 25 = some [.nilFunc] := by and_intros <;> kernel_rfl
@[go_sem] theorem It : cW Tryz.prog 26 = some 1 ∧ dl Tryz.prog 26 = true ∧ ct Tryz.prog 26 = some false ∧ (Tryz.prog.underlying 26).isSome = true ∧ aV Tryz.prog 26 = true ∧ bG Tryz.prog 26 = false ∧ bH Tryz.prog 26 = none ∧ aZ Tryz.prog 26 = 8 ∧ bA Tryz.prog 26 = none ∧ bM Tryz.prog 26 = some [.nilFunc] := by and_intros <;> kernel_rfl
@[go_sem] theorem Iu : cW Tryz.prog 27 = some 1 ∧ dl Tryz.prog 27 = true ∧ ct Tryz.prog 27 = some false ∧ (Tryz.prog.underlying 27).isSome = true ∧ aV Tryz.prog 27 = false ∧ bG Tryz.prog 27 = false ∧ bH Tryz.prog 27 = none ∧ aZ Tryz.prog 27 = 16 ∧ bA Tryz.prog 27 = none ∧ bM Tryz.prog 27 = some [.nilIface] := by and_intros <;> kernel_rfl
@[go_sem] theorem Iv : cW Tryz.prog 28 = some 1 ∧ dl Tryz.prog 28 = true ∧ ct Tryz.prog 28 = some false ∧ (Tryz.prog.underlying 28).isSome = true ∧ aV Tryz.prog 28 = false ∧ bG Tryz.prog 28 = false ∧ bH Tryz.prog 28 = none ∧ aZ Tryz.prog 28 = 16 ∧ bA Tryz.prog 28 = none ∧ bM Tryz.prog 28 = some [.nilIface] := by and_intros <;> kernel_rfl
@[go_sem] theorem Iw : cW Tryz.prog 29 = some 1 ∧ dl Tryz.prog 29 = true ∧ ct Tryz.prog 29 = some false ∧ (Tryz.prog.underlying 29).isSome = true ∧ aV Tryz.prog 29 = true ∧ bG Tryz.prog 29 = false ∧ bH Tryz.prog 29 = none ∧ aZ Tryz.prog 29 = 8 ∧ bA Tryz.prog 29 = none ∧ bM Tryz.prog 29 = some [.nilFunc] := by and_intros <;> kernel_rfl
@[go_sem] theorem Ix : cW Tryz.prog 30 = some 1 ∧ dl Tryz.prog 30 = true ∧ ct Tryz.prog 30 = some false ∧ (Tryz.prog.underlying 30).isSome = true ∧ aV Tryz.prog 30 = true ∧ bG Tryz.prog 30 = false ∧ bH Tryz.prog 30 = none ∧ aZ Tryz.prog 30 = 0 ∧ bA Tryz.prog 30 = none := by and_intros <;> kernel_rfl
@[go_sem] theorem Iy : cW Tryz.prog 31 = some 1 ∧ dl Tryz.prog 31 = true ∧ ct Tryz.prog 31 = some false ∧ (Tryz.prog.underlying 31).isSome = true ∧ aV Tryz.prog 31 = true ∧ bG Tryz.prog 31 = false ∧ bH Tryz.prog 31 = none ∧ aZ Tryz.prog 31 = 8 ∧ bA Tryz.prog 31 = none ∧ bM Tryz.prog 31 = some [.nilFunc] := by and_intros <;> kernel_rfl
@[go_sem] theorem Iz : cW Tryz.prog 32 = some 1 ∧ dl Tryz.prog 32 = true ∧ ct Tryz.prog 32 = some false ∧ (Tryz.prog.underlying 32).isSome = true ∧ aV Tryz.prog 32 = true ∧ bG Tryz.prog 32 = false ∧ bH Tryz.prog 32 = none ∧ aZ Tryz.prog 32 = 8 ∧ bA Tryz.prog 32 = none ∧ bM Tryz.prog 32 = some [.nilFunc] := by and_intros <;> kernel_rfl
@[go_sem] theorem IA : cW Tryz.prog 33 = some 1 ∧ dl Tryz.prog 33 = true ∧ ct Tryz.prog 33 = some false ∧ (Tryz.prog.underlying 33).isSome = true ∧ aV Tryz.prog 33 = true ∧ bG Tryz.prog 33 = false ∧ bH Tryz.prog 33 = none ∧ aZ Tryz.prog 33 = 0 ∧ bA Tryz.prog 33 = none := by and_intros <;> kernel_rfl
@[go_sem] theorem IB : cW Tryz.prog 34 = some 1 ∧ dl Tryz.prog 34 = true ∧ ct Tryz.prog 34 = some false ∧ (Tryz.prog.underlying 34).isSome = true ∧ aV Tryz.prog 34 = true ∧ bG Tryz.prog 34 = false ∧ bH Tryz.prog 34 = none ∧ aZ Tryz.prog 34 = 8 ∧ bA Tryz.prog 34 = none ∧ bM Tryz.prog 34 = some [.nilFunc] := by and_intros <;> kernel_rfl
@[go_sem] theorem IC : cW Tryz.prog 35 = some 1 ∧ dl Tryz.prog 35 = true ∧ ct Tryz.prog 35 = some false ∧ (Tryz.prog.underlying 35).isSome = true ∧ aV Tryz.prog 35 = true ∧ bG Tryz.prog 35 = false ∧ bH Tryz.prog 35 = none ∧ aZ Tryz.prog 35 = 0 ∧ bA Tryz.prog 35 = none := by and_intros <;> kernel_rfl
@[go_sem] theorem ID : cW Tryz.prog 36 = some 1 ∧ dl Tryz.prog 36 = true ∧ ct Tryz.prog 36 = some false ∧ (Tryz.prog.underlying 36).isSome = true ∧ aV Tryz.prog 36 = true ∧ bG Tryz.prog 36 = false ∧ bH Tryz.prog 36 = none ∧ aZ Tryz.prog 36 = 8 ∧ bA Tryz.prog 36 = none ∧ bM Tryz.prog 36 = some [.nilFunc] := by and_intros <;> kernel_rfl
@[go_sem] theorem IE : cW Tryz.prog 37 = some 1 ∧ dl Tryz.prog 37 = true ∧ ct Tryz.prog 37 = some false ∧ (Tryz.prog.underlying 37).isSome = true ∧ aV Tryz.prog 37 = true ∧ bG Tryz.prog 37 = false ∧ bH Tryz.prog 37 = none ∧ aZ Tryz.prog 37 = 8 ∧ bA Tryz.prog 37 = none ∧ bM Tryz.prog 37 = some [.nilFunc] := by and_intros <;> kernel_rfl
@[go_sem] theorem IF : cW Tryz.prog 38 = some 1 ∧ dl Tryz.prog 38 = true ∧ ct Tryz.prog 38 = some false ∧ (Tryz.prog.underlying 38).isSome = true ∧ aV Tryz.prog 38 = true ∧ bG Tryz.prog 38 = false ∧ bH Tryz.prog 38 = none ∧ aZ Tryz.prog 38 = 8 ∧ bA Tryz.prog 38 = none ∧ bM Tryz.prog 38 = some [.nilFunc] := by and_intros <;> kernel_rfl
@[go_sem] theorem IG : cW Tryz.prog 39 = some 1 ∧ dl Tryz.prog 39 = true ∧ ct Tryz.prog 39 = some false ∧ (Tryz.prog.underlying 39).isSome = true ∧ aV Tryz.prog 39 = true ∧ bG Tryz.prog 39 = false ∧ bH Tryz.prog 39 = none ∧ aZ Tryz.prog 39 = 0 ∧ bA Tryz.prog 39 = none := by and_intros <;> kernel_rfl
@[go_sem] theorem IH : cW Tryz.prog 40 = some 1 ∧ dl Tryz.prog 40 = true ∧ ct Tryz.prog 40 = some false ∧ (Tryz.prog.underlying 40).isSome = true ∧ aV Tryz.prog 40 = true ∧ bG Tryz.prog 40 = false ∧ bH Tryz.prog 40 = none ∧ aZ Tryz.prog 40 = 8 ∧ bA Tryz.prog 40 = none ∧ bM Tryz.prog 40 = some [.nilFunc] := by and_intros <;> kernel_rfl
@[go_sem] theorem II : cW Tryz.prog 41 = some 1 ∧ dl Tryz.prog 41 = true ∧ ct Tryz.prog 41 = some false ∧ (Tryz.prog.underlying 41).isSome = true ∧ aV Tryz.prog 41 = true ∧ bG Tryz.prog 41 = false ∧ bH Tryz.prog 41 = some .i64 ∧ aZ Tryz.prog 41 = 8 ∧ bA Tryz.prog 41 = none ∧ bM Tryz.prog 41 = some [.int .i64 0] := by and_intros <;> kernel_rfl
@[go_sem] theorem IJ : cW Tryz.prog 42 = some 1 ∧ dl Tryz.prog 42 = true ∧ ct Tryz.prog 42 = some false ∧ (Tryz.prog.underlying 42).isSome = true ∧ aV Tryz.prog 42 = true ∧ bG Tryz.prog 42 = false ∧ bH Tryz.prog 42 = none ∧ aZ Tryz.prog 42 = 0 ∧ bA Tryz.prog 42 = none := by and_intros <;> kernel_rfl
@[go_sem] theorem IK : cW Tryz.prog 43 = some 1 ∧ dl Tryz.prog 43 = true ∧ ct Tryz.prog 43 = some false ∧ (Tryz.prog.underlying 43).isSome = true ∧ aV Tryz.prog 43 = true ∧ bG Tryz.prog 43 = false ∧ bH Tryz.prog 43 = none ∧ aZ Tryz.prog 43 = 8 ∧ bA Tryz.prog 43 = none ∧ bM Tryz.prog 43 = some [.nilFunc] := by and_intros <;> kernel_rfl
@[go_sem] theorem IL : cW Tryz.prog 44 = some 1 ∧ dl Tryz.prog 44 = true ∧ ct Tryz.prog 44 = some false ∧ (Tryz.prog.underlying 44).isSome = true ∧ aV Tryz.prog 44 = true ∧ bG Tryz.prog 44 = false ∧ bH Tryz.prog 44 = none ∧ aZ Tryz.prog 44 = 8 ∧ bA Tryz.prog 44 = none ∧ bM Tryz.prog 44 = some [.nilFunc] := by and_intros <;> kernel_rfl
@[go_sem] theorem IM : cW Tryz.prog 45 = some 1 ∧ dl Tryz.prog 45 = true ∧ ct Tryz.prog 45 = some false ∧ (Tryz.prog.underlying 45).isSome = true ∧ aV Tryz.prog 45 = true ∧ bG Tryz.prog 45 = false ∧ bH Tryz.prog 45 = none ∧ aZ Tryz.prog 45 = 24 ∧ bA Tryz.prog 45 = some 47 ∧ bM Tryz.prog 45 = some [.slice none 0 0] := by and_intros <;> kernel_rfl
@[go_sem] theorem IN : cW Tryz.prog 46 = some 4 ∧ dl Tryz.prog 46 = true ∧ ct Tryz.prog 46 = some true ∧ (Tryz.prog.underlying 46).isSome = true ∧ aV Tryz.prog 46 = true ∧ bG Tryz.prog 46 = false ∧ bH Tryz.prog 46 = none ∧ aZ Tryz.prog 46 = 56 ∧ bA Tryz.prog 46 = none ∧ bM Tryz.prog 46 = some [.int .i64 0,.int .i64 0,.string ⟨#[]⟩,.slice none 0 0] ∧ bQ Tryz.prog 46 0 = some (0,3) ∧ bQ Tryz.prog 46 1 = some (1,3) ∧ bQ Tryz.prog 46 2 = some (2,9) ∧ bQ Tryz.prog 46 3 = some (3,45) ∧ ee Tryz.prog 46 = some [(0,1),(1,1),(2,1),(3,1)] := by and_intros <;> kernel_rfl
@[go_sem] theorem IO : cW Tryz.prog 47 = some 4 ∧ dl Tryz.prog 47 = true ∧ ct Tryz.prog 47 = some true ∧ (Tryz.prog.underlying 47).isSome = true ∧ aV Tryz.prog 47 = true ∧ bG Tryz.prog 47 = false ∧ bH Tryz.prog 47 = none ∧ aZ Tryz.prog 47 = 56 ∧ bA Tryz.prog 47 = none ∧ bM Tryz.prog 47 = some [.int .i64 0,.int .i64 0,.string ⟨#[]⟩,.slice none 0 0] ∧ bQ Tryz.prog 47 0 = some (0,3) ∧ bQ Tryz.prog 47 1 = some (1,3) ∧ bQ Tryz.prog 47 2 = some (2,9) ∧ bQ Tryz.prog 47 3 = some (3,45) ∧ ee Tryz.prog 47 = some [(0,1),(1,1),(2,1),(3,1)] := by and_intros <;> kernel_rfl
@[go_sem] theorem IP : cW Tryz.prog 48 = some 1 ∧ dl Tryz.prog 48 = true ∧ ct Tryz.prog 48 = some false ∧ (Tryz.prog.underlying 48).isSome = true ∧ aV Tryz.prog 48 = true ∧ bG Tryz.prog 48 = false ∧ bH Tryz.prog 48 = none ∧ aZ Tryz.prog 48 = 24 ∧ bA Tryz.prog 48 = some 9 ∧ bM Tryz.prog 48 = some [.slice none 0 0] := by and_intros <;> kernel_rfl
@[go_sem] theorem IQ : cW Tryz.prog 49 = some 1 ∧ dl Tryz.prog 49 = true ∧ ct Tryz.prog 49 = some false ∧ (Tryz.prog.underlying 49).isSome = true ∧ aV Tryz.prog 49 = true ∧ bG Tryz.prog 49 = false ∧ bH Tryz.prog 49 = none ∧ aZ Tryz.prog 49 = 24 ∧ bA Tryz.prog 49 = some 51 ∧ bM Tryz.prog 49 = some [.slice none 0 0] := by and_intros <;> kernel_rfl
@[go_sem] theorem IR : cW Tryz.prog 50 = some 3 ∧ dl Tryz.prog 50 = true ∧ ct Tryz.prog 50 = some true ∧ (Tryz.prog.underlying 50).isSome = true ∧ aV Tryz.prog 50 = true ∧ bG Tryz.prog 50 = false ∧ bH Tryz.prog 50 = none ∧ aZ Tryz.prog 50 = 56 ∧ bA Tryz.prog 50 = none ∧ bM Tryz.prog 50 = some [.int .i64 0,.slice none 0 0,.slice none 0 0] ∧ bQ Tryz.prog 50 0 = some (0,3) ∧ bQ Tryz.prog 50 1 = some (1,45) ∧ bQ Tryz.prog 50 2 = some (2,49) ∧ ee Tryz.prog 50 = some [(0,1),(1,1),(2,1)] := by and_intros <;> kernel_rfl
@[go_sem] theorem IS : cW Tryz.prog 51 = some 3 ∧ dl Tryz.prog 51 = true ∧ ct Tryz.prog 51 = some true ∧ (Tryz.prog.underlying 51).isSome = true ∧ aV Tryz.prog 51 = true ∧ bG Tryz.prog 51 = false ∧ bH Tryz.prog 51 = none ∧ aZ Tryz.prog 51 = 56 ∧ bA Tryz.prog 51 = none ∧ bM Tryz.prog 51 = some [.int .i64 0,.slice none 0 0,.slice none 0 0] ∧ bQ Tryz.prog 51 0 = some (0,3) ∧ bQ Tryz.prog 51 1 = some (1,45) ∧ bQ Tryz.prog 51 2 = some (2,49) ∧ ee Tryz.prog 51 = some [(0,1),(1,1),(2,1)] := by and_intros <;> kernel_rfl
@[go_sem] theorem IT : cW Tryz.prog 52 = some 1 ∧ dl Tryz.prog 52 = true ∧ ct Tryz.prog 52 = some false ∧ (Tryz.prog.underlying 52).isSome = true ∧ aV Tryz.prog 52 = true ∧ bG Tryz.prog 52 = false ∧ bH Tryz.prog 52 = none ∧ aZ Tryz.prog 52 = 24 ∧ bA Tryz.prog 52 = some 54 ∧ bM Tryz.prog 52 = some [.slice none 0 0] := by and_intros <;> kernel_rfl
@[go_sem] theorem IU : cW Tryz.prog 54 = some 15 ∧ dl Tryz.prog 54 = true ∧ ct Tryz.prog 54 = some true ∧ (Tryz.prog.underlying 54).isSome = true ∧ aV Tryz.prog 54 = true ∧ bG Tryz.prog 54 = false ∧ bH Tryz.prog 54 = none ∧ aZ Tryz.prog 54 = 224 ∧ bA Tryz.prog 54 = none ∧ bM Tryz.prog 54 = some [.int .i64 0,.int .i64 0,.slice none 0 0,.slice none 0 0,.int .i64 0,.int .i64 0,.string ⟨#[]⟩,.slice none 0 0,.int .i64 0,.int .i64 0,.string ⟨#[]⟩,.slice none 0 0,.string ⟨#[]⟩,.int .i64 0,.slice none 0 0] ∧ bQ Tryz.prog 54 0 = some (0,3) ∧ bQ Tryz.prog 54 1 = some (1,51) ∧ bQ Tryz.prog 54 2 = some (4,47) ∧ bQ Tryz.prog 54 3 = some (8,47) ∧ bQ Tryz.prog 54 4 = some (12,9) ∧ bQ Tryz.prog 54 5 = some (13,3) := by and_intros <;> kernel_rfl
@[go_sem] theorem IV : bQ Tryz.prog 54 6 = some (14,52) ∧ ee Tryz.prog 54 = some [(0,1),(1,3),(4,4),(8,4),(12,1),(13,1),(14,1)] := by and_intros <;> kernel_rfl
@[go_sem] theorem IW : cW Tryz.prog 55 = some 1 ∧ dl Tryz.prog 55 = true ∧ ct Tryz.prog 55 = some false ∧ (Tryz.prog.underlying 55).isSome = true ∧ aV Tryz.prog 55 = true ∧ bG Tryz.prog 55 = false ∧ bH Tryz.prog 55 = none ∧ aZ Tryz.prog 55 = 24 ∧ bA Tryz.prog 55 = some 57 ∧ bM Tryz.prog 55 = some [.slice none 0 0] := by and_intros <;> kernel_rfl
@[go_sem] theorem IX : cW Tryz.prog 57 = some 35 ∧ dl Tryz.prog 57 = true ∧ ct Tryz.prog 57 = some true ∧ (Tryz.prog.underlying 57).isSome = true ∧ aV Tryz.prog 57 = true ∧ bG Tryz.prog 57 = false ∧ bH Tryz.prog 57 = none ∧ aZ Tryz.prog 57 = 568 ∧ bA Tryz.prog 57 = none ∧ bM Tryz.prog 57 = some [.int .i64 0,.string ⟨#[]⟩,.string ⟨#[]⟩,.string ⟨#[]⟩,.int .i64 0,.int .i64 0,.string ⟨#[]⟩,.slice none 0 0,.int .i64 0,.int .i64 0,.string ⟨#[]⟩,.slice none 0 0,.int .i64 0,.slice none 0 0,.slice none 0 0,.int .i64 0,.int .i64 0,.slice none 0 0,.slice none 0 0,.int .i64 0,.int .i64 0,.string ⟨#[]⟩,.slice none 0 0,.int .i64 0,.int .i64 0,.string ⟨#[]⟩,.slice none 0 0,.string ⟨#[]⟩,.int .i64 0,.slice none 0 0,.slice none 0 0,.slice none 0 0,.slice none 0 0,.slice none 0 0,.slice none 0 0] ∧ bQ Tryz.prog 57 0 = some (0,3) ∧ bQ Tryz.prog 57 1 = some (1,9) ∧ bQ Tryz.prog 57 2 = some (2,9) ∧ bQ Tryz.prog 57 3 = some (3,9) ∧ bQ Tryz.prog 57 4 = some (4,47) ∧ bQ Tryz.prog 57 5 = some (8,47) := by and_intros <;> kernel_rfl
@[go_sem] theorem IY : bQ Tryz.prog 57 6 = some (12,51) ∧ bQ Tryz.prog 57 7 = some (15,54) ∧ bQ Tryz.prog 57 8 = some (30,45) ∧ bQ Tryz.prog 57 9 = some (31,45) ∧ bQ Tryz.prog 57 10 = some (32,48) ∧ bQ Tryz.prog 57 11 = some (33,55) ∧ bQ Tryz.prog 57 12 = some (34,55) ∧ ee Tryz.prog 57 = some [(0,1),(1,1),(2,1),(3,1),(4,4),(8,4),(12,3),(15,15),(30,1),(31,1),(32,1),(33,1),(34,1)] := by and_intros <;> kernel_rfl
@[go_sem] theorem IZ : cW Tryz.prog 59 = some 34 ∧ dl Tryz.prog 59 = true ∧ ct Tryz.prog 59 = some true ∧ (Tryz.prog.underlying 59).isSome = true ∧ aV Tryz.prog 59 = true ∧ bG Tryz.prog 59 = false ∧ bH Tryz.prog 59 = none ∧ aZ Tryz.prog 59 = 536 ∧ bA Tryz.prog 59 = none ∧ bM Tryz.prog 59 = some [.string ⟨#[]⟩,.slice none 0 0,.slice none 0 0,.int .i64 0,.int .i64 0,.slice none 0 0,.slice none 0 0,.int .i64 0,.int .i64 0,.string ⟨#[]⟩,.slice none 0 0,.int .i64 0,.int .i64 0,.string ⟨#[]⟩,.slice none 0 0,.string ⟨#[]⟩,.int .i64 0,.slice none 0 0,.int .i64 0,.int .i64 0,.slice none 0 0,.slice none 0 0,.int .i64 0,.int .i64 0,.string ⟨#[]⟩,.slice none 0 0,.int .i64 0,.int .i64 0,.string ⟨#[]⟩,.slice none 0 0,.string ⟨#[]⟩,.int .i64 0,.slice none 0 0,.slice none 0 0] ∧ bQ Tryz.prog 59 0 = some (0,9) ∧ bQ Tryz.prog 59 1 = some (1,48) ∧ bQ Tryz.prog 59 2 = some (2,48) ∧ bQ Tryz.prog 59 3 = some (3,54) ∧ bQ Tryz.prog 59 4 = some (18,54) ∧ bQ Tryz.prog 59 5 = some (33,55) := by and_intros <;> kernel_rfl
@[go_sem] theorem I0 : ee Tryz.prog 59 = some [(0,1),(1,1),(2,1),(3,15),(18,15),(33,1)] := by kernel_rfl
@[go_sem] theorem I1 : cW Tryz.prog 63 = some 1 ∧ dl Tryz.prog 63 = true ∧ ct Tryz.prog 63 = some false ∧ (Tryz.prog.underlying 63).isSome = true ∧ aV Tryz.prog 63 = true ∧ bG Tryz.prog 63 = false ∧ bH Tryz.prog 63 = none ∧ aZ Tryz.prog 63 = 8 ∧ bA Tryz.prog 63 = none ∧ bM Tryz.prog 63 = some [.pointer none] := by and_intros <;> kernel_rfl
@[go_sem] theorem I2 : cW Tryz.prog 65 = some 2 ∧ dl Tryz.prog 65 = true ∧ ct Tryz.prog 65 = some true ∧ (Tryz.prog.underlying 65).isSome = true ∧ aV Tryz.prog 65 = true ∧ bG Tryz.prog 65 = false ∧ bH Tryz.prog 65 = none ∧ aZ Tryz.prog 65 = 24 ∧ bA Tryz.prog 65 = none ∧ bM Tryz.prog 65 = some [.int .i64 0,.nilIface] ∧ bQ Tryz.prog 65 0 = some (0,3) ∧ bQ Tryz.prog 65 1 = some (1,28) ∧ ee Tryz.prog 65 = some [(0,1),(1,1)] := by and_intros <;> kernel_rfl
@[go_sem] theorem I3 : cW Tryz.prog 69 = some 3 ∧ dl Tryz.prog 69 = true ∧ ct Tryz.prog 69 = some true ∧ (Tryz.prog.underlying 69).isSome = true ∧ aV Tryz.prog 69 = true ∧ bG Tryz.prog 69 = false ∧ bH Tryz.prog 69 = none ∧ aZ Tryz.prog 69 = 3 ∧ bA Tryz.prog 69 = none ∧ bM Tryz.prog 69 = some [.bool false,.bool false,.bool false] ∧ bQ Tryz.prog 69 0 = some (0,4) ∧ bQ Tryz.prog 69 1 = some (1,4) ∧ bQ Tryz.prog 69 2 = some (2,4) ∧ ee Tryz.prog 69 = some [(0,1),(1,1),(2,1)] := by and_intros <;> kernel_rfl
@[go_sem] theorem I4 : cW Tryz.prog 73 = some 1 ∧ dl Tryz.prog 73 = true ∧ ct Tryz.prog 73 = some false ∧ (Tryz.prog.underlying 73).isSome = true ∧ aV Tryz.prog 73 = true ∧ bG Tryz.prog 73 = false ∧ bH Tryz.prog 73 = none ∧ aZ Tryz.prog 73 = 8 ∧ bA Tryz.prog 73 = none ∧ bM Tryz.prog 73 = some [.nilFunc] := by and_intros <;> kernel_rfl
@[go_sem] theorem I5 : cW Tryz.prog 88 = some 1 ∧ dl Tryz.prog 88 = true ∧ ct Tryz.prog 88 = some false ∧ (Tryz.prog.underlying 88).isSome = true ∧ aV Tryz.prog 88 = true ∧ bG Tryz.prog 88 = false ∧ bH Tryz.prog 88 = none ∧ aZ Tryz.prog 88 = 8 ∧ bA Tryz.prog 88 = none ∧ bM Tryz.prog 88 = some [.nilFunc] := by and_intros <;> kernel_rfl
@[go_sem] theorem I6 : cW Tryz.prog 110 = some 1 ∧ dl Tryz.prog 110 = true ∧ ct Tryz.prog 110 = some false ∧ (Tryz.prog.underlying 110).isSome = true ∧ aV Tryz.prog 110 = true ∧ bG Tryz.prog 110 = false ∧ bH Tryz.prog 110 = none ∧ aZ Tryz.prog 110 = 8 ∧ bA Tryz.prog 110 = none ∧ bM Tryz.prog 110 = some [.pointer none] := by and_intros <;> kernel_rfl
@[go_sem] theorem I7 : cW Tryz.prog 117 = some 1 ∧ dl Tryz.prog 117 = true ∧ ct Tryz.prog 117 = some false ∧ (Tryz.prog.underlying 117).isSome = true ∧ aV Tryz.prog 117 = true ∧ bG Tryz.prog 117 = false ∧ bH Tryz.prog 117 = none ∧ aZ Tryz.prog 117 = 8 ∧ bA Tryz.prog 117 = none ∧ bM Tryz.prog 117 = some [.nilFunc] := by and_intros <;> kernel_rfl
@[go_sem] theorem I8 : cW Tryz.prog 120 = some 1 ∧ dl Tryz.prog 120 = true ∧ ct Tryz.prog 120 = some false ∧ (Tryz.prog.underlying 120).isSome = true ∧ aV Tryz.prog 120 = true ∧ bG Tryz.prog 120 = false ∧ bH Tryz.prog 120 = none ∧ aZ Tryz.prog 120 = 8 ∧ bA Tryz.prog 120 = none ∧ bM Tryz.prog 120 = some [.nilFunc] := by and_intros <;> kernel_rfl
@[go_sem] theorem I9 : cW Tryz.prog 131 = some 1 ∧ dl Tryz.prog 131 = true ∧ ct Tryz.prog 131 = some false ∧ (Tryz.prog.underlying 131).isSome = true ∧ aV Tryz.prog 131 = true ∧ bG Tryz.prog 131 = false ∧ bH Tryz.prog 131 = none ∧ aZ Tryz.prog 131 = 8 ∧ bA Tryz.prog 131 = none ∧ bM Tryz.prog 131 = some [.nilFunc] := by and_intros <;> kernel_rfl
@[go_sem] theorem Ja : cW Tryz.prog 153 = some 1 ∧ dl Tryz.prog 153 = true ∧ ct Tryz.prog 153 = some false ∧ (Tryz.prog.underlying 153).isSome = true ∧ aV Tryz.prog 153 = true ∧ bG Tryz.prog 153 = false ∧ bH Tryz.prog 153 = none ∧ aZ Tryz.prog 153 = 8 ∧ bA Tryz.prog 153 = none ∧ bM Tryz.prog 153 = some [.nilFunc] := by and_intros <;> kernel_rfl
@[go_sem] theorem Jb : cW Tryz.prog 155 = some 1 ∧ dl Tryz.prog 155 = true ∧ ct Tryz.prog 155 = some false ∧ (Tryz.prog.underlying 155).isSome = true ∧ aV Tryz.prog 155 = true ∧ bG Tryz.prog 155 = false ∧ bH Tryz.prog 155 = none ∧ aZ Tryz.prog 155 = 8 ∧ bA Tryz.prog 155 = none ∧ bM Tryz.prog 155 = some [.nilFunc] := by and_intros <;> kernel_rfl
@[go_sem] theorem Jc : cW Tryz.prog 156 = some 1 ∧ dl Tryz.prog 156 = true ∧ ct Tryz.prog 156 = some false ∧ (Tryz.prog.underlying 156).isSome = true ∧ aV Tryz.prog 156 = true ∧ bG Tryz.prog 156 = false ∧ bH Tryz.prog 156 = none ∧ aZ Tryz.prog 156 = 8 ∧ bA Tryz.prog 156 = none ∧ bM Tryz.prog 156 = some [.nilFunc] := by and_intros <;> kernel_rfl
@[go_sem] theorem Jd : cW Tryz.prog 173 = some 1 ∧ dl Tryz.prog 173 = true ∧ ct Tryz.prog 173 = some false ∧ (Tryz.prog.underlying 173).isSome = true ∧ aV Tryz.prog 173 = true ∧ bG Tryz.prog 173 = false ∧ bH Tryz.prog 173 = none ∧ aZ Tryz.prog 173 = 8 ∧ bA Tryz.prog 173 = none ∧ bM Tryz.prog 173 = some [.pointer none] := by and_intros <;> kernel_rfl
@[go_sem] theorem Je : cW Tryz.prog 174 = some 1 ∧ dl Tryz.prog 174 = true ∧ ct Tryz.prog 174 = some false ∧ (Tryz.prog.underlying 174).isSome = true ∧ aV Tryz.prog 174 = true ∧ bG Tryz.prog 174 = false ∧ bH Tryz.prog 174 = some .u64 ∧ aZ Tryz.prog 174 = 8 ∧ bA Tryz.prog 174 = none ∧ bM Tryz.prog 174 = some [.int .u64 0] := by and_intros <;> kernel_rfl
@[go_sem] theorem Jf : cW Tryz.prog 176 = some 3 ∧ dl Tryz.prog 176 = true ∧ ct Tryz.prog 176 = some true ∧ (Tryz.prog.underlying 176).isSome = true ∧ aV Tryz.prog 176 = true ∧ bG Tryz.prog 176 = false ∧ bH Tryz.prog 176 = none ∧ aZ Tryz.prog 176 = 24 ∧ bA Tryz.prog 176 = none ∧ bM Tryz.prog 176 = some [.pointer none,.pointer none,.int .u64 0] ∧ bQ Tryz.prog 176 0 = some (0,17) ∧ bQ Tryz.prog 176 1 = some (1,173) ∧ bQ Tryz.prog 176 2 = some (2,174) ∧ ee Tryz.prog 176 = some [(0,1),(1,1),(2,1)] := by and_intros <;> kernel_rfl
@[go_sem] theorem Jg : cW Tryz.prog 179 = some 1 ∧ dl Tryz.prog 179 = true ∧ ct Tryz.prog 179 = some false ∧ (Tryz.prog.underlying 179).isSome = true ∧ aV Tryz.prog 179 = false ∧ bG Tryz.prog 179 = false ∧ bH Tryz.prog 179 = none ∧ aZ Tryz.prog 179 = 16 ∧ bA Tryz.prog 179 = none ∧ bM Tryz.prog 179 = some [.nilIface] := by and_intros <;> kernel_rfl
@[go_sem] theorem Jh : cW Tryz.prog 181 = some 1 ∧ dl Tryz.prog 181 = true ∧ ct Tryz.prog 181 = some false ∧ (Tryz.prog.underlying 181).isSome = true ∧ aV Tryz.prog 181 = true ∧ bG Tryz.prog 181 = false ∧ bH Tryz.prog 181 = some .u8 ∧ aZ Tryz.prog 181 = 1 ∧ bA Tryz.prog 181 = none ∧ bM Tryz.prog 181 = some [.int .u8 0] := by and_intros <;> kernel_rfl
@[go_sem] theorem Ji : cW Tryz.prog 189 = some 1 ∧ dl Tryz.prog 189 = true ∧ ct Tryz.prog 189 = some false ∧ (Tryz.prog.underlying 189).isSome = true ∧ aV Tryz.prog 189 = true ∧ bG Tryz.prog 189 = false ∧ bH Tryz.prog 189 = none ∧ aZ Tryz.prog 189 = 24 ∧ bA Tryz.prog 189 = some 48 ∧ bM Tryz.prog 189 = some [.slice none 0 0] := by and_intros <;> kernel_rfl
@[go_sem] theorem Jj : cW Tryz.prog 216 = some 1 ∧ dl Tryz.prog 216 = true ∧ ct Tryz.prog 216 = some false ∧ (Tryz.prog.underlying 216).isSome = true ∧ aV Tryz.prog 216 = false ∧ bG Tryz.prog 216 = false ∧ bH Tryz.prog 216 = none ∧ aZ Tryz.prog 216 = 16 ∧ bA Tryz.prog 216 = none ∧ bM Tryz.prog 216 = some [.nilIface] := by and_intros <;> kernel_rfl
@[go_sem] theorem Jk : cW Tryz.prog 219 = some 1 ∧ dl Tryz.prog 219 = true ∧ ct Tryz.prog 219 = some false ∧ (Tryz.prog.underlying 219).isSome = true ∧ aV Tryz.prog 219 = false ∧ bG Tryz.prog 219 = false ∧ bH Tryz.prog 219 = none ∧ aZ Tryz.prog 219 = 16 ∧ bA Tryz.prog 219 = none ∧ bM Tryz.prog 219 = some [.nilIface] := by and_intros <;> kernel_rfl
@[go_sem] theorem Jl : cW Tryz.prog 221 = some 1 ∧ dl Tryz.prog 221 = true ∧ ct Tryz.prog 221 = some false ∧ (Tryz.prog.underlying 221).isSome = true ∧ aV Tryz.prog 221 = false ∧ bG Tryz.prog 221 = false ∧ bH Tryz.prog 221 = none ∧ aZ Tryz.prog 221 = 16 ∧ bA Tryz.prog 221 = none ∧ bM Tryz.prog 221 = some [.nilIface] := by and_intros <;> kernel_rfl
@[go_sem] theorem Jm : cW Tryz.prog 224 = some 1 ∧ dl Tryz.prog 224 = true ∧ ct Tryz.prog 224 = some false ∧ (Tryz.prog.underlying 224).isSome = true ∧ aV Tryz.prog 224 = false ∧ bG Tryz.prog 224 = false ∧ bH Tryz.prog 224 = none ∧ aZ Tryz.prog 224 = 16 ∧ bA Tryz.prog 224 = none ∧ bM Tryz.prog 224 = some [.nilIface] := by and_intros <;> kernel_rfl
@[go_sem] theorem Jn : cW Tryz.prog 230 = some 1 ∧ dl Tryz.prog 230 = true ∧ ct Tryz.prog 230 = some false ∧ (Tryz.prog.underlying 230).isSome = true ∧ aV Tryz.prog 230 = true ∧ bG Tryz.prog 230 = false ∧ bH Tryz.prog 230 = some .u64 ∧ aZ Tryz.prog 230 = 8 ∧ bA Tryz.prog 230 = none ∧ bM Tryz.prog 230 = some [.int .u64 0] := by and_intros <;> kernel_rfl
@[go_sem] theorem Jo : cW Tryz.prog 242 = some 1 ∧ dl Tryz.prog 242 = true ∧ ct Tryz.prog 242 = some false ∧ (Tryz.prog.underlying 242).isSome = true ∧ aV Tryz.prog 242 = true ∧ bG Tryz.prog 242 = false ∧ bH Tryz.prog 242 = some .i64 ∧ aZ Tryz.prog 242 = 8 ∧ bA Tryz.prog 242 = none ∧ bM Tryz.prog 242 = some [.int .i64 0] := by and_intros <;> kernel_rfl
@[go_sem] theorem Jp : cW Tryz.prog 243 = some 1 ∧ dl Tryz.prog 243 = true ∧ ct Tryz.prog 243 = some false ∧ (Tryz.prog.underlying 243).isSome = true ∧ aV Tryz.prog 243 = true ∧ bG Tryz.prog 243 = false ∧ bH Tryz.prog 243 = none ∧ aZ Tryz.prog 243 = 0 ∧ bA Tryz.prog 243 = none := by and_intros <;> kernel_rfl
@[go_sem] theorem Jq : cW Tryz.prog 247 = some 1 ∧ dl Tryz.prog 247 = true ∧ ct Tryz.prog 247 = some false ∧ (Tryz.prog.underlying 247).isSome = true ∧ aV Tryz.prog 247 = true ∧ bG Tryz.prog 247 = false ∧ bH Tryz.prog 247 = none ∧ aZ Tryz.prog 247 = 0 ∧ bA Tryz.prog 247 = none := by and_intros <;> kernel_rfl
@[go_sem] theorem Jr : cW Tryz.prog 250 = some 1 ∧ dl Tryz.prog 250 = true ∧ ct Tryz.prog 250 = some false ∧ (Tryz.prog.underlying 250).isSome = true ∧ aV Tryz.prog 250 = true ∧ bG Tryz.prog 250 = false ∧ bH Tryz.prog 250 = some .u32 ∧ aZ Tryz.prog 250 = 4 ∧ bA Tryz.prog 250 = none ∧ bM Tryz.prog 250 = some [.int .u32 0] := by and_intros <;> kernel_rfl
@[go_sem] theorem Js : cW Tryz.prog 252 = some 1 ∧ dl Tryz.prog 252 = true ∧ ct Tryz.prog 252 = some false ∧ (Tryz.prog.underlying 252).isSome = true ∧ aV Tryz.prog 252 = true ∧ bG Tryz.prog 252 = false ∧ bH Tryz.prog 252 = some .u64 ∧ aZ Tryz.prog 252 = 8 ∧ bA Tryz.prog 252 = none ∧ bM Tryz.prog 252 = some [.int .u64 0] := by and_intros <;> kernel_rfl
@[go_sem] theorem Jt : cW Tryz.prog 255 = some 1 ∧ dl Tryz.prog 255 = true ∧ ct Tryz.prog 255 = some false ∧ (Tryz.prog.underlying 255).isSome = true ∧ aV Tryz.prog 255 = true ∧ bG Tryz.prog 255 = false ∧ bH Tryz.prog 255 = some .u64 ∧ aZ Tryz.prog 255 = 8 ∧ bA Tryz.prog 255 = none ∧ bM Tryz.prog 255 = some [.int .u64 0] := by and_intros <;> kernel_rfl
@[go_sem] theorem Ju : cW Tryz.prog 259 = some 1 ∧ dl Tryz.prog 259 = true ∧ ct Tryz.prog 259 = some false ∧ (Tryz.prog.underlying 259).isSome = true ∧ aV Tryz.prog 259 = true ∧ bG Tryz.prog 259 = false ∧ bH Tryz.prog 259 = none ∧ aZ Tryz.prog 259 = 8 ∧ bA Tryz.prog 259 = none ∧ bM Tryz.prog 259 = some [.pointer none] := by and_intros <;> kernel_rfl
@[go_sem] theorem Jv : cW Tryz.prog 268 = some 1 ∧ dl Tryz.prog 268 = true ∧ ct Tryz.prog 268 = some false ∧ (Tryz.prog.underlying 268).isSome = true ∧ aV Tryz.prog 268 = true ∧ bG Tryz.prog 268 = false ∧ bH Tryz.prog 268 = none ∧ aZ Tryz.prog 268 = 8 ∧ bA Tryz.prog 268 = none ∧ bM Tryz.prog 268 = some [.pointer none] := by and_intros <;> kernel_rfl
@[go_sem] theorem Jw : pn Tryz.prog 9 = some (.string ⟨#[]⟩) := by kernel_rfl
@[go_sem] theorem Jx : aR Tryz.prog 3 = true := by kernel_rfl
@[go_sem] theorem Jy : aR Tryz.prog 4 = true := by kernel_rfl
@[go_sem] theorem Jz : aR Tryz.prog 8 = true := by kernel_rfl
@[go_sem] theorem JA : aR Tryz.prog 9 = true := by kernel_rfl
@[go_sem] theorem JB : aR Tryz.prog 10 = true := by kernel_rfl
@[go_sem] theorem JC : aR Tryz.prog 11 = true := by kernel_rfl
@[go_sem] theorem Fa : aR Tryz.prog 12 = true := by kernel_rfl
@[go_sem] theorem Fb : aR Tryz.prog 13 = true := by kernel_rfl
@[go_sem] theorem Fc : aR Tryz.prog 17 = true := by kernel_rfl
@[go_sem] theorem Fd : aR Tryz.prog 18 = true := by kernel_rfl
@[go_sem] theorem Fe : aR Tryz.prog 19 = true := by kernel_rfl
@[go_sem] theorem Ff : aR Tryz.prog 22 = true := by kernel_rfl
@[go_sem] theorem Fg : aR Tryz.prog 23 = true := by kernel_rfl
@[go_sem] theorem Fh : aR Tryz.prog 24 = true := by kernel_rfl
@[go_sem] theorem Fi : aR Tryz.prog 25 = true := by kernel_rfl
@[go_sem] theorem Fj : aR Tryz.prog 26 = true := by kernel_rfl
@[go_sem] theorem Fk : aR Tryz.prog 27 = true := by kernel_rfl
@[go_sem] theorem Fl : aR Tryz.prog 28 = true := by kernel_rfl
@[go_sem] theorem Fm : aR Tryz.prog 29 = true := by kernel_rfl
@[go_sem] theorem Fo : aR Tryz.prog 30 = true := by kernel_rfl
@[go_sem] theorem Fp : aR Tryz.prog 31 = true := by kernel_rfl
@[go_sem] theorem Fq : aR Tryz.prog 32 = true := by kernel_rfl
@[go_sem] theorem Fs : aR Tryz.prog 33 = true := by kernel_rfl
@[go_sem] theorem Ft : aR Tryz.prog 40 = true := by kernel_rfl
@[go_sem] theorem Fu : aR Tryz.prog 41 = true := by kernel_rfl
@[go_sem] theorem Fv : aR Tryz.prog 42 = true := by kernel_rfl
@[go_sem] theorem Fw : aR Tryz.prog 43 = true := by kernel_rfl
@[go_sem] theorem Fx : aR Tryz.prog 44 = true := by kernel_rfl
@[go_sem] theorem Fy : aR Tryz.prog 45 = true := by kernel_rfl
@[go_sem] theorem Fz : aR Tryz.prog 46 = true := by kernel_rfl
@[go_sem] theorem FB : aR Tryz.prog 47 = true := by kernel_rfl
@[go_sem] theorem FD : aR Tryz.prog 48 = true := by kernel_rfl
@[go_sem] theorem FE : aR Tryz.prog 49 = true := by kernel_rfl
@[go_sem] theorem FF : aR Tryz.prog 50 = true := by kernel_rfl
@[go_sem] theorem FG : aR Tryz.prog 51 = true := by kernel_rfl
@[go_sem] theorem FH : aR Tryz.prog 60 = true := by kernel_rfl
@[go_sem] theorem FI : aR Tryz.prog 61 = true := by kernel_rfl
@[go_sem] theorem FJ : aR Tryz.prog 62 = true := by kernel_rfl
@[go_sem] theorem FK : aR Tryz.prog 63 = true := by kernel_rfl
@[go_sem] theorem FL : aR Tryz.prog 64 = true := by kernel_rfl
@[go_sem] theorem FM : aR Tryz.prog 65 = true := by kernel_rfl
@[go_sem] theorem FN : aR Tryz.prog 66 = true := by kernel_rfl
@[go_sem] theorem FO : aR Tryz.prog 67 = true := by kernel_rfl
@[go_sem] theorem FP : aR Tryz.prog 68 = true := by kernel_rfl
@[go_sem] theorem FQ : aR Tryz.prog 69 = true := by kernel_rfl
@[go_sem] theorem FR : aR Tryz.prog 70 = true := by kernel_rfl
@[go_sem] theorem FS : aR Tryz.prog 71 = true := by kernel_rfl
@[go_sem] theorem FT : aR Tryz.prog 72 = true := by kernel_rfl
@[go_sem] theorem FU : aR Tryz.prog 73 = true := by kernel_rfl
@[go_sem] theorem FV : aR Tryz.prog 74 = true := by kernel_rfl
@[go_sem] theorem FW : aR Tryz.prog 75 = true := by kernel_rfl
@[go_sem] theorem FX : aR Tryz.prog 76 = true := by kernel_rfl
@[go_sem] theorem FY : aR Tryz.prog 77 = true := by kernel_rfl
@[go_sem] theorem FZ : aR Tryz.prog 78 = true := by kernel_rfl
@[go_sem] theorem F0 : aR Tryz.prog 79 = true := by kernel_rfl
@[go_sem] theorem F1 : aR Tryz.prog 80 = true := by kernel_rfl
@[go_sem] theorem F2 : aR Tryz.prog 81 = true := by kernel_rfl
@[go_sem] theorem F3 : aR Tryz.prog 82 = true := by kernel_rfl
@[go_sem] theorem F4 : aR Tryz.prog 83 = true := by kernel_rfl
@[go_sem] theorem F5 : aR Tryz.prog 84 = true := by kernel_rfl
@[go_sem] theorem F6 : aR Tryz.prog 85 = true := by kernel_rfl
@[go_sem] theorem F7 : aR Tryz.prog 86 = true := by kernel_rfl
@[go_sem] theorem F8 : aR Tryz.prog 87 = true := by kernel_rfl
@[go_sem] theorem F9 : aR Tryz.prog 88 = true := by kernel_rfl
@[go_sem] theorem Ga : aR Tryz.prog 89 = true := by kernel_rfl
@[go_sem] theorem Gb : aR Tryz.prog 90 = true := by kernel_rfl
@[go_sem] theorem Gc : aR Tryz.prog 99 = true := by kernel_rfl
@[go_sem] theorem Gd : aR Tryz.prog 100 = true := by kernel_rfl
@[go_sem] theorem Ge : aR Tryz.prog 101 = true := by kernel_rfl
@[go_sem] theorem Gf : aR Tryz.prog 102 = true := by kernel_rfl
@[go_sem] theorem Gg : aR Tryz.prog 103 = true := by kernel_rfl
@[go_sem] theorem Gi : aR Tryz.prog 104 = true := by kernel_rfl
@[go_sem] theorem Gj : aR Tryz.prog 105 = true := by kernel_rfl
@[go_sem] theorem Gk : aR Tryz.prog 106 = true := by kernel_rfl
@[go_sem] theorem Gm : aR Tryz.prog 107 = true := by kernel_rfl
@[go_sem] theorem Gn : aR Tryz.prog 108 = true := by kernel_rfl
@[go_sem] theorem Gp : aR Tryz.prog 109 = true := by kernel_rfl
@[go_sem] theorem Gq : aR Tryz.prog 110 = true := by kernel_rfl
@[go_sem] theorem Gr : aR Tryz.prog 111 = true := by kernel_rfl
@[go_sem] theorem Gs : aR Tryz.prog 112 = true := by kernel_rfl
@[go_sem] theorem Gt : aR Tryz.prog 113 = true := by kernel_rfl
@[go_sem] theorem Gu : aR Tryz.prog 114 = true := by kernel_rfl
@[go_sem] theorem Gv : aR Tryz.prog 115 = true := by kernel_rfl
@[go_sem] theorem Gw : aR Tryz.prog 116 = true := by kernel_rfl
@[go_sem] theorem Gx : aR Tryz.prog 117 = true := by kernel_rfl
@[go_sem] theorem Gy : aR Tryz.prog 118 = true := by kernel_rfl
@[go_sem] theorem Gz : aR Tryz.prog 119 = true := by kernel_rfl
@[go_sem] theorem GD : aR Tryz.prog 120 = true := by kernel_rfl
@[go_sem] theorem GE : aR Tryz.prog 121 = true := by kernel_rfl
@[go_sem] theorem GF : aR Tryz.prog 122 = true := by kernel_rfl
@[go_sem] theorem GG : aR Tryz.prog 123 = true := by kernel_rfl
@[go_sem] theorem GH : aR Tryz.prog 124 = true := by kernel_rfl
@[go_sem] theorem GI : aR Tryz.prog 125 = true := by kernel_rfl
@[go_sem] theorem GJ : aR Tryz.prog 126 = true := by kernel_rfl
@[go_sem] theorem GK : aR Tryz.prog 127 = true := by kernel_rfl
@[go_sem] theorem GL : aR Tryz.prog 134 = true := by kernel_rfl
@[go_sem] theorem GM : aR Tryz.prog 136 = true := by kernel_rfl
@[go_sem] theorem GN : aR Tryz.prog 144 = false := by kernel_rfl
@[go_sem] theorem GO : aR Tryz.prog 145 = false := by kernel_rfl
@[go_sem] theorem GP : aR Tryz.prog 146 = false := by kernel_rfl
@[go_sem] theorem GQ : aR Tryz.prog 147 = true := by kernel_rfl
@[go_sem] theorem GR : aR Tryz.prog 148 = false := by kernel_rfl
@[go_sem] theorem GS : aR Tryz.prog 149 = true := by kernel_rfl
@[go_sem] theorem GT : aR Tryz.prog 150 = true := by kernel_rfl
@[go_sem] theorem GU : aR Tryz.prog 151 = true := by kernel_rfl
@[go_sem] theorem GV : aR Tryz.prog 152 = true := by kernel_rfl
@[go_sem] theorem GW : aR Tryz.prog 153 = true := by kernel_rfl
@[go_sem] theorem GX : aR Tryz.prog 154 = true := by kernel_rfl
@[go_sem] theorem GY : aR Tryz.prog 155 = true := by kernel_rfl
@[go_sem] theorem GZ : aR Tryz.prog 156 = true := by kernel_rfl
@[go_sem] theorem G1 : aR Tryz.prog 157 = true := by kernel_rfl
@[go_sem] theorem G2 : aR Tryz.prog 158 = true := by kernel_rfl
@[go_sem] theorem G3 : aR Tryz.prog 159 = true := by kernel_rfl
@[go_sem] theorem G4 : aR Tryz.prog 160 = true := by kernel_rfl
@[go_sem] theorem G5 : aR Tryz.prog 161 = true := by kernel_rfl
@[go_sem] theorem G6 : aR Tryz.prog 162 = true := by kernel_rfl
@[go_sem] theorem G7 : aR Tryz.prog 163 = true := by kernel_rfl
@[go_sem] theorem G8 : aR Tryz.prog 164 = true := by kernel_rfl
@[go_sem] theorem G9 : aR Tryz.prog 165 = true := by kernel_rfl
@[go_sem] theorem Ha : aR Tryz.prog 166 = true := by kernel_rfl
@[go_sem] theorem Hb : aR Tryz.prog 167 = true := by kernel_rfl
@[go_sem] theorem Hc : aR Tryz.prog 168 = true := by kernel_rfl
@[go_sem] theorem Hd : aR Tryz.prog 169 = true := by kernel_rfl
@[go_sem] theorem He : aR Tryz.prog 175 = true := by kernel_rfl
@[go_sem] theorem Hf : aR Tryz.prog 176 = true := by kernel_rfl
@[go_sem] theorem Hg : aR Tryz.prog 177 = true := by kernel_rfl
@[go_sem] theorem Hh : aR Tryz.prog 178 = true := by kernel_rfl
@[go_sem] theorem Hi : aR Tryz.prog 179 = true := by kernel_rfl
@[go_sem] theorem Hj : aR Tryz.prog 180 = true := by kernel_rfl
@[go_sem] theorem Hk : aR Tryz.prog 181 = true := by kernel_rfl
@[go_sem] theorem Hl : aR Tryz.prog 182 = true := by kernel_rfl
@[go_sem] theorem Hm : aR Tryz.prog 183 = true := by kernel_rfl
@[go_sem] theorem Hn : aR Tryz.prog 184 = true := by kernel_rfl
@[go_sem] theorem Ho : aR Tryz.prog 185 = true := by kernel_rfl
@[go_sem] theorem Hp : aR Tryz.prog 186 = true := by kernel_rfl
@[go_sem] theorem Hq : aR Tryz.prog 187 = true := by kernel_rfl
@[go_sem] theorem Hr : aR Tryz.prog 188 = true := by kernel_rfl
@[go_sem] theorem Hs : aR Tryz.prog 203 = false := by kernel_rfl
@[go_sem] theorem Ht : aR Tryz.prog 204 = false := by kernel_rfl
@[go_sem] theorem Hu : aR Tryz.prog 205 = true := by kernel_rfl
@[go_sem] theorem Hv : aR Tryz.prog 206 = true := by kernel_rfl
@[go_sem] theorem Hw : aR Tryz.prog 207 = true := by kernel_rfl
@[go_sem] theorem Hx : aR Tryz.prog 208 = true := by kernel_rfl
@[go_sem] theorem Hy : aR Tryz.prog 209 = true := by kernel_rfl
@[go_sem] theorem Hz : aR Tryz.prog 213 = true := by kernel_rfl
@[go_sem] theorem HB : aR Tryz.prog 214 = true := by kernel_rfl
@[go_sem] theorem HD : aR Tryz.prog 215 = true := by kernel_rfl
@[go_sem] theorem HE : aR Tryz.prog 216 = true := by kernel_rfl
@[go_sem] theorem HF : aR Tryz.prog 231 = true := by kernel_rfl
@[go_sem] theorem HG : aR Tryz.prog 232 = true := by kernel_rfl
@[go_sem] theorem HH : aR Tryz.prog 233 = true := by kernel_rfl
@[go_sem] theorem HI : aR Tryz.prog 234 = true := by kernel_rfl
@[go_sem] theorem HK : aR Tryz.prog 235 = true := by kernel_rfl
@[go_sem] theorem HL : aR Tryz.prog 236 = true := by kernel_rfl
@[go_sem] theorem HM : aR Tryz.prog 237 = true := by kernel_rfl
@[go_sem] theorem HN : aR Tryz.prog 238 = true := by kernel_rfl
@[go_sem] theorem HO : aR Tryz.prog 239 = true := by kernel_rfl
@[go_sem] theorem HP : aR Tryz.prog 240 = true := by kernel_rfl
@[go_sem] theorem HQ : aR Tryz.prog 241 = true := by kernel_rfl
@[go_sem] theorem HR : aR Tryz.prog 243 = false := by kernel_rfl
@[go_sem] theorem HS : aR Tryz.prog 244 = false := by kernel_rfl
@[go_sem] theorem HT : aR Tryz.prog 245 = true := by kernel_rfl
@[go_sem] theorem HU : aR Tryz.prog 246 = true := by kernel_rfl
@[go_sem] theorem HW : aR Tryz.prog 251 = true := by kernel_rfl
@[go_sem] theorem HZ : aR Tryz.prog 252 = true := by kernel_rfl
@[go_sem] theorem H1 : aR Tryz.prog 253 = true := by kernel_rfl
@[go_sem] theorem H2 : aR Tryz.prog 254 = true := by kernel_rfl
@[go_sem] theorem H3 : aR Tryz.prog 255 = true := by kernel_rfl
@[go_sem] theorem H4 : aR Tryz.prog 256 = true := by kernel_rfl
@[go_sem] theorem H5 : aR Tryz.prog 264 = true := by kernel_rfl
@[go_sem] theorem H6 : aR Tryz.prog 285 = false := by kernel_rfl
@[go_sem] theorem H7 : aR Tryz.prog 296 = false := by kernel_rfl
@[go_sem] theorem H8 : aR Tryz.prog 297 = false := by kernel_rfl
@[go_sem] theorem H9 : aR Tryz.prog 298 = false := by kernel_rfl
@[go_sem] theorem Ia : aR Tryz.prog 299 = false := by kernel_rfl
end Go.Proofs.YtkjnkkmokojnpaaGreatDoor

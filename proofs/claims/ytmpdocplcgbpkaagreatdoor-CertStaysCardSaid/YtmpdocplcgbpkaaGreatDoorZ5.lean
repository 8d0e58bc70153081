/- What K asks of the types and functions of this seat, as closed facts. Printed by program. -/
import Derived.Test.YtmpdocplcgbpkaaGreatDoorZ4
import Derived.Test.YtmpdocplcgbpkaaGreatDoorProg
namespace Go.Proofs.YtmpdocplcgbpkaaGreatDoor
set_option linter.unusedSimpArgs false
@[go_sem] theorem kk2 : cB Tryz.prog 0 = some 1 ∧ cR Tryz.prog 0 = true ∧ ci Tryz.prog 0 = some false ∧ (Tryz.prog.underlying 0).isSome = true ∧ bo Tryz.prog 0 = true ∧ bS Tryz.prog 0 = false ∧ bU Tryz.prog 0 = none ∧ bz Tryz.prog 0 = 0 ∧ bL Tryz.prog 0 = none := by and_intros <;> kernel_rfl
@[go_sem] theorem kk3 : cB Tryz.prog 1 = some 1 ∧ cR Tryz.prog 1 = true ∧ ci Tryz.prog 1 = some false ∧ (Tryz.prog.underlying 1).isSome = true ∧ bo Tryz.prog 1 = true ∧ bS Tryz.prog 1 = false ∧ bU Tryz.prog 1 = none ∧ bz Tryz.prog 1 = 8 ∧ bL Tryz.prog 1 = none ∧ bV Tryz.prog 1 = some [.nilFunc] := by and_intros <;> kernel_rfl
@[go_sem] theorem kk4 : cB Tryz.prog 2 = some 1 ∧ cR Tryz.prog 2 = true ∧ ci Tryz.prog 2 = some false ∧ (Tryz.prog.underlying 2).isSome = true ∧ bo Tryz.prog 2 = true ∧ bS Tryz.prog 2 = false ∧ bU Tryz.prog 2 = some .i64 ∧ bz Tryz.prog 2 = 8 ∧ bL Tryz.prog 2 = none ∧ bV Tryz.prog 2 = some [.int .i64 0] := by and_intros <;> kernel_rfl
@[go_sem] theorem kk5 : cB Tryz.prog 3 = some 1 ∧ cR Tryz.prog 3 = true ∧ ci Tryz.prog 3 = some false ∧ (Tryz.prog.underlying 3).isSome = true ∧ bo Tryz.prog 3 = true ∧ bS Tryz.prog 3 = false ∧ bU Tryz.prog 3 = some .i64 ∧ bz Tryz.prog 3 = 8 ∧ bL Tryz.prog 3 = none ∧ bV Tryz.prog 3 = some [.int .i64 0] := by and_intros <;> kernel_rfl
@[go_sem] theorem kk6 : cB Tryz.prog 4 = some 1 ∧ cR Tryz.prog 4 = true ∧ ci Tryz.prog 4 = some false ∧ (Tryz.prog.underlying 4).isSome = true ∧ bo Tryz.prog 4 = true ∧ bS Tryz.prog 4 = false ∧ bU Tryz.prog 4 = none ∧ bz Tryz.prog 4 = 1 ∧ bL Tryz.prog 4 = none ∧ bV Tryz.prog 4 = some [.bool false] := by and_intros <;> kernel_rfl
@[go_sem] theorem kk7 : cB Tryz.prog 5 = some 1 ∧ cR Tryz.prog 5 = true ∧ ci Tryz.prog 5 = some false ∧ (Tryz.prog.underlying 5).isSome = true ∧ bo Tryz.prog 5 = true ∧ bS Tryz.prog 5 = false ∧ bU Tryz.prog 5 = some .u8 ∧ bz Tryz.prog 5 = 1 ∧ bL Tryz.prog 5 = none ∧ bV Tryz.prog 5 = some [.int .u8 0] := by and_intros <;> kernel_rfl
@[go_sem] theorem kk8 : cB Tryz.prog 6 = some 1 ∧ cR Tryz.prog 6 = true ∧ ci Tryz.prog 6 = some false ∧ (Tryz.prog.underlying 6).isSome = true ∧ bo Tryz.prog 6 = true ∧ bS Tryz.prog 6 = false ∧ bU Tryz.prog 6 = some .u8 ∧ bz Tryz.prog 6 = 1 ∧ bL Tryz.prog 6 = none ∧ bV Tryz.prog 6 = some [.int .u8 0] := by and_intros <;> kernel_rfl
@[go_sem] theorem kk9 : cB Tryz.prog 7 = some 4 ∧ cR Tryz.prog 7 = true ∧ ci Tryz.prog 7 = some true ∧ (Tryz.prog.underlying 7).isSome = true ∧ bo Tryz.prog 7 = true ∧ bS Tryz.prog 7 = false ∧ bU Tryz.prog 7 = none ∧ bz Tryz.prog 7 = 24 ∧ bL Tryz.prog 7 = none ∧ bV Tryz.prog 7 = some [.int .i64 0,.int .i64 0,.bool false,.int .u8 0] ∧ cl Tryz.prog 7 0 = some (0,2) ∧ cl Tryz.prog 7 1 = some (1,3) ∧ cl Tryz.prog 7 2 = some (2,4) ∧ cl Tryz.prog 7 3 = some (3,6) ∧ da Tryz.prog 7 = some [(0,1),(1,1),(2,1),(3,1)] := by and_intros <;> kernel_rfl
@[go_sem] theorem B8 : cB Tryz.prog 8 = some 4 ∧ cR Tryz.prog 8 = true ∧ ci Tryz.prog 8 = some true ∧ (Tryz.prog.underlying 8).isSome = true ∧ bo Tryz.prog 8 = true ∧ bS Tryz.prog 8 = false ∧ bU Tryz.prog 8 = none ∧ bz Tryz.prog 8 = 24 ∧ bL Tryz.prog 8 = none ∧ bV Tryz.prog 8 = some [.int .i64 0,.int .i64 0,.bool false,.int .u8 0] ∧ cl Tryz.prog 8 0 = some (0,2) ∧ cl Tryz.prog 8 1 = some (1,3) ∧ cl Tryz.prog 8 2 = some (2,4) ∧ cl Tryz.prog 8 3 = some (3,6) ∧ da Tryz.prog 8 = some [(0,1),(1,1),(2,1),(3,1)] := by and_intros <;> kernel_rfl
@[go_sem] theorem B9 : cB Tryz.prog 9 = some 1 ∧ cR Tryz.prog 9 = true ∧ ci Tryz.prog 9 = some false ∧ (Tryz.prog.underlying 9).isSome = true ∧ bo Tryz.prog 9 = true ∧ bS Tryz.prog 9 = true ∧ bU Tryz.prog 9 = none ∧ bz Tryz.prog 9 = 16 ∧ bL Tryz.prog 9 = none ∧ bV Tryz.prog 9 = some [.string ⟨#[]⟩] := by and_intros <;> kernel_rfl
@[go_sem] theorem Ca : cB Tryz.prog 10 = some 1 ∧ cR Tryz.prog 10 = true ∧ ci Tryz.prog 10 = some false ∧ (Tryz.prog.underlying 10).isSome = true ∧ bo Tryz.prog 10 = true ∧ bS Tryz.prog 10 = true ∧ bU Tryz.prog 10 = none ∧ bz Tryz.prog 10 = 16 ∧ bL Tryz.prog 10 = none ∧ bV Tryz.prog 10 = some [.string ⟨#[]⟩] := by and_intros <;> kernel_rfl
@[go_sem] theorem Cb : cB Tryz.prog 11 = some 1 ∧ cR Tryz.prog 11 = true ∧ ci Tryz.prog 11 = some false ∧ (Tryz.prog.underlying 11).isSome = true ∧ bo Tryz.prog 11 = true ∧ bS Tryz.prog 11 = true ∧ bU Tryz.prog 11 = none ∧ bz Tryz.prog 11 = 16 ∧ bL Tryz.prog 11 = none ∧ bV Tryz.prog 11 = some [.string ⟨#[]⟩] := by and_intros <;> kernel_rfl
@[go_sem] theorem Cc : cB Tryz.prog 12 = some 1 ∧ cR Tryz.prog 12 = true ∧ ci Tryz.prog 12 = some false ∧ (Tryz.prog.underlying 12).isSome = true ∧ bo Tryz.prog 12 = true ∧ bS Tryz.prog 12 = false ∧ bU Tryz.prog 12 = some .u64 ∧ bz Tryz.prog 12 = 8 ∧ bL Tryz.prog 12 = none ∧ bV Tryz.prog 12 = some [.int .u64 0] := by and_intros <;> kernel_rfl
@[go_sem] theorem Cd : cB Tryz.prog 13 = some 2 ∧ cR Tryz.prog 13 = true ∧ ci Tryz.prog 13 = some true ∧ (Tryz.prog.underlying 13).isSome = true ∧ bo Tryz.prog 13 = true ∧ bS Tryz.prog 13 = false ∧ bU Tryz.prog 13 = none ∧ bz Tryz.prog 13 = 24 ∧ bL Tryz.prog 13 = none ∧ bV Tryz.prog 13 = some [.string ⟨#[]⟩,.int .u64 0] ∧ cl Tryz.prog 13 0 = some (0,9) ∧ cl Tryz.prog 13 1 = some (1,12) ∧ da Tryz.prog 13 = some [(0,1),(1,1)] := by and_intros <;> kernel_rfl
@[go_sem] theorem Ce : cB Tryz.prog 14 = some 2 ∧ cR Tryz.prog 14 = true ∧ ci Tryz.prog 14 = some true ∧ (Tryz.prog.underlying 14).isSome = true ∧ bo Tryz.prog 14 = true ∧ bS Tryz.prog 14 = false ∧ bU Tryz.prog 14 = none ∧ bz Tryz.prog 14 = 24 ∧ bL Tryz.prog 14 = none ∧ bV Tryz.prog 14 = some [.string ⟨#[]⟩,.int .u64 0] ∧ cl Tryz.prog 14 0 = some (0,9) ∧ cl Tryz.prog 14 1 = some (1,12) ∧ da Tryz.prog 14 = some [(0,1),(1,1)] := by and_intros <;> kernel_rfl
@[go_sem] theorem Cf : cB Tryz.prog 15 = some 1 ∧ cR Tryz.prog 15 = true ∧ ci Tryz.prog 15 = some false ∧ (Tryz.prog.underlying 15).isSome = true ∧ bo Tryz.prog 15 = true ∧ bS Tryz.prog 15 = false ∧ bU Tryz.prog 15 = none ∧ bz Tryz.prog 15 = 8 ∧ bL Tryz.prog 15 = none ∧ bV Tryz.prog 15 = some [.pointer none] := by and_intros <;> kernel_rfl
@[go_sem] theorem Cg : cB Tryz.prog 16 = some 1 ∧ cR Tryz.prog 16 = true ∧ ci Tryz.prog 16 = some false ∧ (Tryz.prog.underlying 16).isSome = true ∧ bo Tryz.prog 16 = true ∧ bS Tryz.prog 16 = false ∧ bU Tryz.prog 16 = none ∧ bz Tryz.prog 16 = 8 ∧ bL Tryz.prog 16 = none ∧ bV Tryz.prog 16 = some [.pointer none] := by and_intros <;> kernel_rfl
@[go_sem] theorem Ch : cB Tryz.prog 17 = some 1 ∧ cR Tryz.prog 17 = true ∧ ci Tryz.prog 17 = some false ∧ (Tryz.prog.underlying 17).isSome = true ∧ bo Tryz.prog 17 = true ∧ bS Tryz.prog 17 = false ∧ bU Tryz.prog 17 = none ∧ bz Tryz.prog 17 = 8 ∧ bL Tryz.prog 17 = none ∧ bV Tryz.prog 17 = some [.pointer none] := by and_intros <;> kernel_rfl
@[go_sem] theorem Ci : cB Tryz.prog 18 = some 1 ∧ cR Tryz.prog 18 = true ∧ ci Tryz.prog 18 = some true ∧ (Tryz.prog.underlying 18).isSome = true ∧ bo Tryz.prog 18 = true ∧ bS Tryz.prog 18 = false ∧ bU Tryz.prog 18 = none ∧ bz Tryz.prog 18 = 8 ∧ bL Tryz.prog 18 = none ∧ bV Tryz.prog 18 = some [.pointer none] ∧ cl Tryz.prog 18 0 = some (0,17) ∧ da Tryz.prog 18 = some [(0,1)] := by and_intros <;> kernel_rfl
@[go_sem] theorem Cj : cB Tryz.prog 19 = some 1 ∧ cR Tryz.prog 19 = true ∧ ci Tryz.prog 19 = some true ∧ (Tryz.prog.underlying 19).isSome = true ∧ bo Tryz.prog 19 = true ∧ bS Tryz.prog 19 = false ∧ bU Tryz.prog 19 = none ∧ bz Tryz.prog 19 = 8 ∧ bL Tryz.prog 19 = none ∧ bV Tryz.prog 19 = some [.pointer none] ∧ cl Tryz.prog 19 0 = some (0,17) ∧ da Tryz.prog 19 = some [(0,1)] := by and_intros <;> kernel_rfl
@[go_sem] theorem Ck : cB Tryz.prog 20 = some 1 ∧ cR Tryz.prog 20 = true ∧ ci Tryz.prog 20 = some false ∧ (Tryz.prog.underlying 20).isSome = true ∧ bo Tryz.prog 20 = false ∧ bS Tryz.prog 20 = false ∧ bU Tryz.prog 20 = none ∧ bz Tryz.prog 20 = 16 ∧ bL Tryz.prog 20 = none ∧ bV Tryz.prog 20 = some [.nilIface] := by and_intros <;> kernel_rfl
@[go_sem] theorem Cl : cB Tryz.prog 21 = some 1 ∧ cR Tryz.prog 21 = true ∧ ci Tryz.prog 21 = some false ∧ (Tryz.prog.underlying 21).isSome = true ∧ bo Tryz.prog 21 = true ∧ bS Tryz.prog 21 = false ∧ bU Tryz.prog 21 = some .i32 ∧ bz Tryz.prog 21 = 4 ∧ bL Tryz.prog 21 = none ∧ bV Tryz.prog 21 = some [.int .i32 0] := by and_intros <;> kernel_rfl
@[go_sem] theorem Cm : cB Tryz.prog 22 = some 1 ∧ cR Tryz.prog 22 = true ∧ ci Tryz.prog 22 = some false ∧ (Tryz.prog.underlying 22).isSome = true ∧ bo Tryz.prog 22 = true ∧ bS Tryz.prog 22 = false ∧ bU Tryz.prog 22 = none ∧ bz Tryz.prog 22 = 24 ∧ bL Tryz.prog 22 = some 94 ∧ bV Tryz.prog 22 = some [.slice none 0 0] := by and_intros <;> kernel_rfl
@[go_sem] theorem Cn : cB Tryz.prog 23 = some 2 ∧ cR Tryz.prog 23 = true ∧ ci Tryz.prog 23 = some true ∧ (Tryz.prog.underlying 23).isSome = true ∧ bo Tryz.prog 23 = true ∧ bS Tryz.prog 23 = false ∧ bU Tryz.prog 23 = none ∧ bz Tryz.prog 23 = 32 ∧ bL Tryz.prog 23 = none ∧ bV Tryz.prog 23 = some [.int .i64 0,.slice none 0 0] ∧ cl Tryz.prog 23 0 = some (0,3) ∧ cl Tryz.prog 23 1 = some (1,22) ∧ da Tryz.prog 23 = some [(0,1),(1,1)] := by and_intros <;> kernel_rfl
@[go_sem] theorem Co : cB Tryz.prog 24 = some 2 ∧ cR Tryz.prog 24 = true ∧ ci Tryz.prog 24 = some true ∧ (Tryz.prog.underlying 24).isSome = true ∧ bo Tryz.prog 24 = true ∧ bS Tryz.prog 24 = false ∧ bU Tryz.prog 24 = none ∧ bz Tryz.prog 24 = 32 ∧ bL Tryz.prog 24 = none ∧ bV Tryz.prog 24 = some [.int .i64 0,.slice none 0 0] ∧ cl Tryz.prog 24 0 = some (0,3) ∧ cl Tryz.prog 24 1 = some (1,22) ∧ da Tryz.prog 24 = some [(0,1),(1,1)] := by and_intros <;> kernel_rfl
@[go_sem] theorem Cp : cB Tryz.prog 25 = some 1 ∧ cR Tryz.prog 25 = true ∧ ci Tryz.prog 25 = some false ∧ (Tryz.prog.underlying 25).isSome = true ∧ bo Tryz.prog 25 = true ∧ bS Tryz.prog 25 = false ∧ bU Tryz.prog 25 = none ∧ bz Tryz.prog 25 = 24 ∧ bL Tryz.prog 25 = some 27 ∧ bV Tryz.prog 25 = some [.slice none 0 0] := by and_intros <;> kernel_rfl
@[go_sem] theorem Cq : cB Tryz.prog 26 = some 4 ∧ cR Tryz.prog 26 = true ∧ ci Tryz.prog 26 = some true ∧ (Tryz.prog.underlying 26).isSome = true ∧ bo Tryz.prog 26 = true ∧ bS Tryz.prog 26 = false ∧ bU Tryz.prog 26 = none ∧ bz Tryz.prog 26 = 64 ∧ bL Tryz.prog 26 = none ∧ bV Tryz.prog 26 = some [.int .i64 0,.int .i64 0,.slice none 0 0,.slice none 0 0] ∧ cl Tryz.prog 26 0 = some (0,3) ∧ cl Tryz.prog 26 1 = some (1,24) ∧ cl Tryz.prog 26 2 = some (3,25) ∧ da Tryz.prog 26 = some [(0,1),(1,2),(3,1)] := by and_intros <;> kernel_rfl
@[go_sem] theorem Cr : cB Tryz.prog 27 = some 4 ∧ cR Tryz.prog 27 = true ∧ ci Tryz.prog 27 = some true ∧ (Tryz.prog.underlying 27).isSome = true ∧ bo Tryz.prog 27 = true ∧ bS Tryz.prog 27 = false ∧ bU Tryz.prog 27 = none ∧ bz Tryz.prog 27 = 64 ∧ bL Tryz.prog 27 = none ∧ bV Tryz.prog 27 = some [.int .i64 0,.int .i64 0,.slice none 0 0,.slice none 0 0] ∧ cl Tryz.prog 27 0 = some (0,3) ∧ cl Tryz.prog 27 1 = some (1,24) ∧ cl Tryz.prog 27 2 = some (3,25) ∧ da Tryz.prog 27 = some [(0,1),(1,2),(3,1)] := by and_intros <;> kernel_rfl
@[go_sem] theorem Cs : cB Tryz.prog 28 = some 1 ∧ cR Tryz.prog 28 = true ∧ ci Tryz.prog 28 = some false ∧ (Tryz.prog.underlying 28).isSome = true ∧ bo Tryz.prog 28 = true ∧ bS Tryz.prog 28 = false ∧ bU Tryz.prog 28 = none ∧ bz Tryz.prog 28 = 24 ∧ bL Tryz.prog 28 = some 44 ∧ bV Tryz.prog 28 = some [.slice none 0 0] := by and_intros <;> kernel_rfl
@[go_sem] theorem Ct : cB Tryz.prog 29 = some 1 ∧ cR Tryz.prog 29 = true ∧ ci Tryz.prog 29 = some false ∧ (Tryz.prog.underlying 29).isSome = true ∧ bo Tryz.prog 29 = true ∧ bS Tryz.prog 29 = false ∧ bU Tryz.prog 29 = none ∧ bz Tryz.prog 29 = 24 ∧ bL Tryz.prog 29 = some 41 ∧ bV Tryz.prog 29 = some [.slice none 0 0] := by and_intros <;> kernel_rfl
@[go_sem] theorem Cu : cB Tryz.prog 30 = some 2 ∧ cR Tryz.prog 30 = true ∧ ci Tryz.prog 30 = some true ∧ (Tryz.prog.underlying 30).isSome = true ∧ bo Tryz.prog 30 = true ∧ bS Tryz.prog 30 = false ∧ bU Tryz.prog 30 = none ∧ bz Tryz.prog 30 = 48 ∧ bL Tryz.prog 30 = none ∧ bV Tryz.prog 30 = some [.slice none 0 0,.slice none 0 0] ∧ cl Tryz.prog 30 0 = some (0,28) ∧ cl Tryz.prog 30 1 = some (1,29) ∧ da Tryz.prog 30 = some [(0,1),(1,1)] := by and_intros <;> kernel_rfl
@[go_sem] theorem Cv : cB Tryz.prog 31 = some 2 ∧ cR Tryz.prog 31 = true ∧ ci Tryz.prog 31 = some true ∧ (Tryz.prog.underlying 31).isSome = true ∧ bo Tryz.prog 31 = true ∧ bS Tryz.prog 31 = false ∧ bU Tryz.prog 31 = none ∧ bz Tryz.prog 31 = 48 ∧ bL Tryz.prog 31 = none ∧ bV Tryz.prog 31 = some [.slice none 0 0,.slice none 0 0] ∧ cl Tryz.prog 31 0 = some (0,28) ∧ cl Tryz.prog 31 1 = some (1,29) ∧ da Tryz.prog 31 = some [(0,1),(1,1)] := by and_intros <;> kernel_rfl
@[go_sem] theorem Cw : cB Tryz.prog 32 = some 1 ∧ cR Tryz.prog 32 = true ∧ ci Tryz.prog 32 = some false ∧ (Tryz.prog.underlying 32).isSome = true ∧ bo Tryz.prog 32 = true ∧ bS Tryz.prog 32 = false ∧ bU Tryz.prog 32 = none ∧ bz Tryz.prog 32 = 8 ∧ bL Tryz.prog 32 = none ∧ bV Tryz.prog 32 = some [.nilFunc] := by and_intros <;> kernel_rfl
@[go_sem] theorem Cx : cB Tryz.prog 33 = some 1 ∧ cR Tryz.prog 33 = true ∧ ci Tryz.prog 33 = some false ∧ (Tryz.prog.underlying 33).isSome = true ∧ bo Tryz.prog 33 = true ∧ bS Tryz.prog 33 = false ∧ bU Tryz.prog 33 = none ∧ bz Tryz.prog 33 = 8 ∧ bL Tryz.prog 33 = none ∧ bV Tryz.prog 33 = some [.nilFunc] := by and_intros <;> kernel_rfl
@[go_sem] theorem Cy : cB Tryz.prog 34 = some 1 ∧ cR Tryz.prog 34 = true ∧ ci Tryz.prog 34 = some false ∧ (Tryz.prog.underlying 34).isSome = true ∧ bo Tryz.prog 34 = false ∧ bS Tryz.prog 34 = false ∧ bU Tryz.prog 34 = none ∧ bz Tryz.prog 34 = 16 ∧ bL Tryz.prog 34 = none ∧ bV Tryz.prog 34 = some [.nilIface] := by and_intros <;> kernel_rfl
@[go_sem] theorem Cz : cB Tryz.prog 35 = some 1 ∧ cR Tryz.prog 35 = true ∧ ci Tryz.prog 35 = some false ∧ (Tryz.prog.underlying 35).isSome = true ∧ bo Tryz.prog 35 = false ∧ bS Tryz.prog 35 = false ∧ bU Tryz.prog 35 = none ∧ bz Tryz.prog 35 = 16 ∧ bL Tryz.prog 35 = none ∧ bV Tryz.prog 35 = some [.nilIface] := by and_intros <;> kernel_rfl
@[go_sem] theorem CA : cB Tryz.prog 36 = some 1 ∧ cR Tryz.prog 36 = true ∧ ci Tryz.prog 36 = some false ∧ (Tryz.prog.underlying 36).isSome = true ∧ bo Tryz.prog 36 = true ∧ bS Tryz.prog 36 = false ∧ bU Tryz.prog 36 = none ∧ bz Tryz.prog 36 = 8 ∧ bL Tryz.prog 36 = none ∧ bV Tryz.prog 36 = some [.nilFunc] := by and_intros <;> kernel_rfl
@[go_sem] theorem CB : cB Tryz.prog 37 = some 1 ∧ cR Tryz.prog 37 = true ∧ ci Tryz.prog 37 = some false ∧ (Tryz.prog.underlying 37).isSome = true ∧ bo Tryz.prog 37 = true ∧ bS Tryz.prog 37 = false ∧ bU Tryz.prog 37 = none ∧ bz Tryz.prog 37 = 0 ∧ bL Tryz.prog 37 = none := by and_intros <;> kernel_rfl
@[go_sem] theorem CC : cB Tryz.prog 38 = some 1 ∧ cR Tryz.prog 38 = true ∧ ci Tryz.prog 38 = some false ∧ (Tryz.prog.underlying 38).isSome = true ∧ bo Tryz.prog 38 = true ∧ bS Tryz.prog 38 = false ∧ bU Tryz.prog 38 = none ∧ bz Tryz.prog 38 = 8 ∧ bL Tryz.prog 38 = none ∧ bV Tryz.prog 38 = some [.nilFunc] := by and_intros <;> kernel_rfl
@[go_sem] theorem CD : cB Tryz.prog 39 = some 1 ∧ cR Tryz.prog 39 = true ∧ ci Tryz.prog 39 = some false ∧ (Tryz.prog.underlying 39).isSome = true ∧ bo Tryz.prog 39 = true ∧ bS Tryz.prog 39 = false ∧ bU Tryz.prog 39 = none ∧ bz Tryz.prog 39 = 8 ∧ bL Tryz.prog 39 = none ∧ bV Tryz.prog 39 = some [.nilFunc] := by and_intros <;> kernel_rfl
@[go_sem] theorem CE : cB Tryz.prog 40 = some 1 ∧ cR Tryz.prog 40 = true ∧ ci Tryz.prog 40 = some false ∧ (Tryz.prog.underlying 40).isSome = true ∧ bo Tryz.prog 40 = true ∧ bS Tryz.prog 40 = false ∧ bU Tryz.prog 40 = none ∧ bz Tryz.prog 40 = 8 ∧ bL Tryz.prog 40 = none ∧ bV Tryz.prog 40 = some [.nilFunc] := by and_intros <;> kernel_rfl
@[go_sem] theorem CF : cB Tryz.prog 41 = some 1 ∧ cR Tryz.prog 41 = true ∧ ci Tryz.prog 41 = some false ∧ (Tryz.prog.underlying 41).isSome = true ∧ bo Tryz.prog 41 = true ∧ bS Tryz.prog 41 = false ∧ bU Tryz.prog 41 = none ∧ bz Tryz.prog 41 = 24 ∧ bL Tryz.prog 41 = some 3 ∧ bV Tryz.prog 41 = some [.slice none 0 0] := by and_intros <;> kernel_rfl
@[go_sem] theorem CG : cB Tryz.prog 42 = some 1 ∧ cR Tryz.prog 42 = true ∧ ci Tryz.prog 42 = some false ∧ (Tryz.prog.underlying 42).isSome = true ∧ bo Tryz.prog 42 = true ∧ bS Tryz.prog 42 = false ∧ bU Tryz.prog 42 = none ∧ bz Tryz.prog 42 = 24 ∧ bL Tryz.prog 42 = some 83 ∧ bV Tryz.prog 42 = some [.slice none 0 0] := by and_intros <;> kernel_rfl
@[go_sem] theorem CH : cB Tryz.prog 43 = some 2 ∧ cR Tryz.prog 43 = true ∧ ci Tryz.prog 43 = some true ∧ (Tryz.prog.underlying 43).isSome = true ∧ bo Tryz.prog 43 = true ∧ bS Tryz.prog 43 = false ∧ bU Tryz.prog 43 = none ∧ bz Tryz.prog 43 = 48 ∧ bL Tryz.prog 43 = none ∧ bV Tryz.prog 43 = some [.slice none 0 0,.slice none 0 0] ∧ cl Tryz.prog 43 0 = some (0,41) ∧ cl Tryz.prog 43 1 = some (1,42) ∧ da Tryz.prog 43 = some [(0,1),(1,1)] := by and_intros <;> kernel_rfl
@[go_sem] theorem CI : cB Tryz.prog 44 = some 2 ∧ cR Tryz.prog 44 = true ∧ ci Tryz.prog 44 = some true ∧ (Tryz.prog.underlying 44).isSome = true ∧ bo Tryz.prog 44 = true ∧ bS Tryz.prog 44 = false ∧ bU Tryz.prog 44 = none ∧ bz Tryz.prog 44 = 48 ∧ bL Tryz.prog 44 = none ∧ bV Tryz.prog 44 = some [.slice none 0 0,.slice none 0 0] ∧ cl Tryz.prog 44 0 = some (0,41) ∧ cl Tryz.prog 44 1 = some (1,42) ∧ da Tryz.prog 44 = some [(0,1),(1,1)] := by and_intros <;> kernel_rfl
@[go_sem] theorem CJ : cB Tryz.prog 45 = some 1 ∧ cR Tryz.prog 45 = true ∧ ci Tryz.prog 45 = some false ∧ (Tryz.prog.underlying 45).isSome = true ∧ bo Tryz.prog 45 = true ∧ bS Tryz.prog 45 = false ∧ bU Tryz.prog 45 = none ∧ bz Tryz.prog 45 = 8 ∧ bL Tryz.prog 45 = none ∧ bV Tryz.prog 45 = some [.nilFunc] := by and_intros <;> kernel_rfl
@[go_sem] theorem CK : cB Tryz.prog 46 = some 1 ∧ cR Tryz.prog 46 = true ∧ ci Tryz.prog 46 = some false ∧ (Tryz.prog.underlying 46).isSome = true ∧ bo Tryz.prog 46 = true ∧ bS Tryz.prog 46 = false ∧ bU Tryz.prog 46 = none ∧ bz Tryz.prog 46 = 0 ∧ bL Tryz.prog 46 = none := by and_intros <;> kernel_rfl
@[go_sem] theorem CL : cB Tryz.prog 47 = some 1 ∧ cR Tryz.prog 47 = true ∧ ci Tryz.prog 47 = some false ∧ (Tryz.prog.underlying 47).isSome = true ∧ bo Tryz.prog 47 = true ∧ bS Tryz.prog 47 = false ∧ bU Tryz.prog 47 = none ∧ bz Tryz.prog 47 = 8 ∧ bL Tryz.prog 47 = none ∧ bV Tryz.prog 47 = some [.nilFunc] := by and_intros <;> kernel_rfl
@[go_sem] theorem CM : cB Tryz.prog 48 = some 1 ∧ cR Tryz.prog 48 = true ∧ ci Tryz.prog 48 = some false ∧ (Tryz.prog.underlying 48).isSome = true ∧ bo Tryz.prog 48 = true ∧ bS Tryz.prog 48 = false ∧ bU Tryz.prog 48 = none ∧ bz Tryz.prog 48 = 8 ∧ bL Tryz.prog 48 = none ∧ bV Tryz.prog 48 = some [.nilFunc] := by and_intros <;> kernel_rfl
@[go_sem] theorem CN : cB Tryz.prog 49 = some 1 ∧ cR Tryz.prog 49 = true ∧ ci Tryz.prog 49 = some false ∧ (Tryz.prog.underlying 49).isSome = true ∧ bo Tryz.prog 49 = true ∧ bS Tryz.prog 49 = false ∧ bU Tryz.prog 49 = none ∧ bz Tryz.prog 49 = 8 ∧ bL Tryz.prog 49 = none ∧ bV Tryz.prog 49 = some [.nilFunc] := by and_intros <;> kernel_rfl
@[go_sem] theorem CO : cB Tryz.prog 50 = some 1 ∧ cR Tryz.prog 50 = true ∧ ci Tryz.prog 50 = some false ∧ (Tryz.prog.underlying 50).isSome = true ∧ bo Tryz.prog 50 = true ∧ bS Tryz.prog 50 = false ∧ bU Tryz.prog 50 = some .i64 ∧ bz Tryz.prog 50 = 8 ∧ bL Tryz.prog 50 = none ∧ bV Tryz.prog 50 = some [.int .i64 0] := by and_intros <;> kernel_rfl
@[go_sem] theorem CP : cB Tryz.prog 55 = some 1 ∧ cR Tryz.prog 55 = true ∧ ci Tryz.prog 55 = some false ∧ (Tryz.prog.underlying 55).isSome = true ∧ bo Tryz.prog 55 = true ∧ bS Tryz.prog 55 = false ∧ bU Tryz.prog 55 = none ∧ bz Tryz.prog 55 = 24 ∧ bL Tryz.prog 55 = some 24 ∧ bV Tryz.prog 55 = some [.slice none 0 0] := by and_intros <;> kernel_rfl
@[go_sem] theorem CQ : cB Tryz.prog 57 = some 3 ∧ cR Tryz.prog 57 = true ∧ ci Tryz.prog 57 = some true ∧ (Tryz.prog.underlying 57).isSome = true ∧ bo Tryz.prog 57 = true ∧ bS Tryz.prog 57 = false ∧ bU Tryz.prog 57 = none ∧ bz Tryz.prog 57 = 56 ∧ bL Tryz.prog 57 = none ∧ bV Tryz.prog 57 = some [.int .i64 0,.slice none 0 0,.slice none 0 0] ∧ cl Tryz.prog 57 0 = some (0,3) ∧ cl Tryz.prog 57 1 = some (1,55) ∧ cl Tryz.prog 57 2 = some (2,29) ∧ da Tryz.prog 57 = some [(0,1),(1,1),(2,1)] := by and_intros <;> kernel_rfl
@[go_sem] theorem CR : cB Tryz.prog 61 = some 1 ∧ cR Tryz.prog 61 = true ∧ ci Tryz.prog 61 = some false ∧ (Tryz.prog.underlying 61).isSome = true ∧ bo Tryz.prog 61 = true ∧ bS Tryz.prog 61 = false ∧ bU Tryz.prog 61 = none ∧ bz Tryz.prog 61 = 8 ∧ bL Tryz.prog 61 = none ∧ bV Tryz.prog 61 = some [.pointer none] := by and_intros <;> kernel_rfl
@[go_sem] theorem CT : cB Tryz.prog 63 = some 2 ∧ cR Tryz.prog 63 = true ∧ ci Tryz.prog 63 = some true ∧ (Tryz.prog.underlying 63).isSome = true ∧ bo Tryz.prog 63 = true ∧ bS Tryz.prog 63 = false ∧ bU Tryz.prog 63 = none ∧ bz Tryz.prog 63 = 24 ∧ bL Tryz.prog 63 = none ∧ bV Tryz.prog 63 = some [.int .i64 0,.nilIface] ∧ cl Tryz.prog 63 0 = some (0,3) ∧ cl Tryz.prog 63 1 = some (1,35) ∧ da Tryz.prog 63 = some [(0,1),(1,1)] := by and_intros <;> kernel_rfl
@[go_sem] theorem CU : cB Tryz.prog 79 = some 1 ∧ cR Tryz.prog 79 = true ∧ ci Tryz.prog 79 = some false ∧ (Tryz.prog.underlying 79).isSome = true ∧ bo Tryz.prog 79 = true ∧ bS Tryz.prog 79 = false ∧ bU Tryz.prog 79 = none ∧ bz Tryz.prog 79 = 8 ∧ bL Tryz.prog 79 = none ∧ bV Tryz.prog 79 = some [.pointer none] := by and_intros <;> kernel_rfl
@[go_sem] theorem CV : cB Tryz.prog 81 = some 1 ∧ cR Tryz.prog 81 = true ∧ ci Tryz.prog 81 = some false ∧ (Tryz.prog.underlying 81).isSome = true ∧ bo Tryz.prog 81 = true ∧ bS Tryz.prog 81 = false ∧ bU Tryz.prog 81 = none ∧ bz Tryz.prog 81 = 24 ∧ bL Tryz.prog 81 = some 181 ∧ bV Tryz.prog 81 = some [.slice none 0 0] := by and_intros <;> kernel_rfl
@[go_sem] theorem CX : cB Tryz.prog 83 = some 2 ∧ cR Tryz.prog 83 = true ∧ ci Tryz.prog 83 = some true ∧ (Tryz.prog.underlying 83).isSome = true ∧ bo Tryz.prog 83 = true ∧ bS Tryz.prog 83 = false ∧ bU Tryz.prog 83 = none ∧ bz Tryz.prog 83 = 32 ∧ bL Tryz.prog 83 = none ∧ bV Tryz.prog 83 = some [.slice none 0 0,.int .i64 0] ∧ cl Tryz.prog 83 0 = some (0,81) ∧ cl Tryz.prog 83 1 = some (1,3) ∧ da Tryz.prog 83 = some [(0,1),(1,1)] := by and_intros <;> kernel_rfl
@[go_sem] theorem CY : cB Tryz.prog 85 = some 1 ∧ cR Tryz.prog 85 = true ∧ ci Tryz.prog 85 = some false ∧ (Tryz.prog.underlying 85).isSome = true ∧ bo Tryz.prog 85 = true ∧ bS Tryz.prog 85 = false ∧ bU Tryz.prog 85 = none ∧ bz Tryz.prog 85 = 8 ∧ bL Tryz.prog 85 = none ∧ bV Tryz.prog 85 = some [.nilFunc] := by and_intros <;> kernel_rfl
@[go_sem] theorem CZ : cB Tryz.prog 86 = some 1 ∧ cR Tryz.prog 86 = true ∧ ci Tryz.prog 86 = some false ∧ (Tryz.prog.underlying 86).isSome = true ∧ bo Tryz.prog 86 = true ∧ bS Tryz.prog 86 = false ∧ bU Tryz.prog 86 = none ∧ bz Tryz.prog 86 = 8 ∧ bL Tryz.prog 86 = none ∧ bV Tryz.prog 86 = some [.pointer none] := by and_intros <;> kernel_rfl
@[go_sem] theorem C0 : cB Tryz.prog 88 = some 4 ∧ cR Tryz.prog 88 = true ∧ ci Tryz.prog 88 = some true ∧ (Tryz.prog.underlying 88).isSome = true ∧ bo Tryz.prog 88 = true ∧ bS Tryz.prog 88 = false ∧ bU Tryz.prog 88 = none ∧ bz Tryz.prog 88 = 64 ∧ bL Tryz.prog 88 = none ∧ bV Tryz.prog 88 = some [.int .i64 0,.slice none 0 0,.slice none 0 0,.bool false] ∧ cl Tryz.prog 88 0 = some (0,57) ∧ cl Tryz.prog 88 1 = some (3,4) ∧ da Tryz.prog 88 = some [(0,3),(3,1)] := by and_intros <;> kernel_rfl
@[go_sem] theorem C1 : cB Tryz.prog 94 = some 2 ∧ cR Tryz.prog 94 = true ∧ ci Tryz.prog 94 = some true ∧ (Tryz.prog.underlying 94).isSome = true ∧ bo Tryz.prog 94 = true ∧ bS Tryz.prog 94 = false ∧ bU Tryz.prog 94 = none ∧ bz Tryz.prog 94 = 16 ∧ bL Tryz.prog 94 = none ∧ bV Tryz.prog 94 = some [.int .i64 0,.int .i64 0] ∧ cl Tryz.prog 94 0 = some (0,3) ∧ cl Tryz.prog 94 1 = some (1,3) ∧ da Tryz.prog 94 = some [(0,1),(1,1)] := by and_intros <;> kernel_rfl
@[go_sem] theorem C2 : cB Tryz.prog 102 = some 1 ∧ cR Tryz.prog 102 = true ∧ ci Tryz.prog 102 = some false ∧ (Tryz.prog.underlying 102).isSome = true ∧ bo Tryz.prog 102 = true ∧ bS Tryz.prog 102 = false ∧ bU Tryz.prog 102 = none ∧ bz Tryz.prog 102 = 8 ∧ bL Tryz.prog 102 = none ∧ bV Tryz.prog 102 = some [.nilFunc] := by and_intros <;> kernel_rfl
@[go_sem] theorem C3 : cB Tryz.prog 109 = some 1 ∧ cR Tryz.prog 109 = true ∧ ci Tryz.prog 109 = some false ∧ (Tryz.prog.underlying 109).isSome = true ∧ bo Tryz.prog 109 = true ∧ bS Tryz.prog 109 = false ∧ bU Tryz.prog 109 = none ∧ bz Tryz.prog 109 = 8 ∧ bL Tryz.prog 109 = none ∧ bV Tryz.prog 109 = some [.nilFunc] := by and_intros <;> kernel_rfl
@[go_sem] theorem C4 : cB Tryz.prog 111 = some 1 ∧ cR Tryz.prog 111 = true ∧ ci Tryz.prog 111 = some false ∧ (Tryz.prog.underlying 111).isSome = true ∧ bo Tryz.prog 111 = true ∧ bS Tryz.prog 111 = false ∧ bU Tryz.prog 111 = none ∧ bz Tryz.prog 111 = 8 ∧ bL Tryz.prog 111 = none ∧ bV Tryz.prog 111 = some [.nilFunc] := by and_intros <;> kernel_rfl
@[go_sem] theorem C5 : cB Tryz.prog 120 = some 1 ∧ cR Tryz.prog 120 = true ∧ ci Tryz.prog 120 = some false ∧ (Tryz.prog.underlying 120).isSome = true ∧ bo Tryz.prog 120 = true ∧ bS Tryz.prog 120 = false ∧ bU Tryz.prog 120 = none ∧ bz Tryz.prog 120 = 8 ∧ bL Tryz.prog 120 = none ∧ bV Tryz.prog 120 = some [.pointer none] := by and_intros <;> kernel_rfl
@[go_sem] theorem C6 : cB Tryz.prog 121 = some 1 ∧ cR Tryz.prog 121 = true ∧ ci Tryz.prog 121 = some false ∧ (Tryz.prog.underlying 121).isSome = true ∧ bo Tryz.prog 121 = true ∧ bS Tryz.prog 121 = false ∧ bU Tryz.prog 121 = some .u64 ∧ bz Tryz.prog 121 = 8 ∧ bL Tryz.prog 121 = none ∧ bV Tryz.prog 121 = some [.int .u64 0] := by and_intros <;> kernel_rfl
@[go_sem] theorem C7 : cB Tryz.prog 123 = some 3 ∧ cR Tryz.prog 123 = true ∧ ci Tryz.prog 123 = some true ∧ (Tryz.prog.underlying 123).isSome = true ∧ bo Tryz.prog 123 = true ∧ bS Tryz.prog 123 = false ∧ bU Tryz.prog 123 = none ∧ bz Tryz.prog 123 = 24 ∧ bL Tryz.prog 123 = none ∧ bV Tryz.prog 123 = some [.pointer none,.pointer none,.int .u64 0] ∧ cl Tryz.prog 123 0 = some (0,17) ∧ cl Tryz.prog 123 1 = some (1,120) ∧ cl Tryz.prog 123 2 = some (2,121) ∧ da Tryz.prog 123 = some [(0,1),(1,1),(2,1)] := by and_intros <;> kernel_rfl
@[go_sem] theorem C8 : cB Tryz.prog 126 = some 1 ∧ cR Tryz.prog 126 = true ∧ ci Tryz.prog 126 = some false ∧ (Tryz.prog.underlying 126).isSome = true ∧ bo Tryz.prog 126 = false ∧ bS Tryz.prog 126 = false ∧ bU Tryz.prog 126 = none ∧ bz Tryz.prog 126 = 16 ∧ bL Tryz.prog 126 = none ∧ bV Tryz.prog 126 = some [.nilIface] := by and_intros <;> kernel_rfl
@[go_sem] theorem C9 : cB Tryz.prog 128 = some 1 ∧ cR Tryz.prog 128 = true ∧ ci Tryz.prog 128 = some false ∧ (Tryz.prog.underlying 128).isSome = true ∧ bo Tryz.prog 128 = true ∧ bS Tryz.prog 128 = false ∧ bU Tryz.prog 128 = some .u8 ∧ bz Tryz.prog 128 = 1 ∧ bL Tryz.prog 128 = none ∧ bV Tryz.prog 128 = some [.int .u8 0] := by and_intros <;> kernel_rfl
@[go_sem] theorem Da : cB Tryz.prog 142 = some 1 ∧ cR Tryz.prog 142 = true ∧ ci Tryz.prog 142 = some false ∧ (Tryz.prog.underlying 142).isSome = true ∧ bo Tryz.prog 142 = true ∧ bS Tryz.prog 142 = false ∧ bU Tryz.prog 142 = none ∧ bz Tryz.prog 142 = 24 ∧ bL Tryz.prog 142 = some 29 ∧ bV Tryz.prog 142 = some [.slice none 0 0] := by and_intros <;> kernel_rfl
@[go_sem] theorem Db : cB Tryz.prog 144 = some 1 ∧ cR Tryz.prog 144 = true ∧ ci Tryz.prog 144 = some false ∧ (Tryz.prog.underlying 144).isSome = true ∧ bo Tryz.prog 144 = true ∧ bS Tryz.prog 144 = false ∧ bU Tryz.prog 144 = none ∧ bz Tryz.prog 144 = 8 ∧ bL Tryz.prog 144 = none ∧ bV Tryz.prog 144 = some [.pointer none] := by and_intros <;> kernel_rfl
@[go_sem] theorem Dc : cB Tryz.prog 146 = some 2 ∧ cR Tryz.prog 146 = true ∧ ci Tryz.prog 146 = some true ∧ (Tryz.prog.underlying 146).isSome = true ∧ bo Tryz.prog 146 = true ∧ bS Tryz.prog 146 = false ∧ bU Tryz.prog 146 = none ∧ bz Tryz.prog 146 = 48 ∧ bL Tryz.prog 146 = none ∧ bV Tryz.prog 146 = some [.slice none 0 0,.slice none 0 0] ∧ cl Tryz.prog 146 0 = some (0,41) ∧ cl Tryz.prog 146 1 = some (1,41) ∧ da Tryz.prog 146 = some [(0,1),(1,1)] := by and_intros <;> kernel_rfl
@[go_sem] theorem Dd : cB Tryz.prog 162 = some 1 ∧ cR Tryz.prog 162 = true ∧ ci Tryz.prog 162 = some false ∧ (Tryz.prog.underlying 162).isSome = true ∧ bo Tryz.prog 162 = false ∧ bS Tryz.prog 162 = false ∧ bU Tryz.prog 162 = none ∧ bz Tryz.prog 162 = 16 ∧ bL Tryz.prog 162 = none ∧ bV Tryz.prog 162 = some [.nilIface] := by and_intros <;> kernel_rfl
@[go_sem] theorem De : cB Tryz.prog 165 = some 1 ∧ cR Tryz.prog 165 = true ∧ ci Tryz.prog 165 = some false ∧ (Tryz.prog.underlying 165).isSome = true ∧ bo Tryz.prog 165 = false ∧ bS Tryz.prog 165 = false ∧ bU Tryz.prog 165 = none ∧ bz Tryz.prog 165 = 16 ∧ bL Tryz.prog 165 = none ∧ bV Tryz.prog 165 = some [.nilIface] := by and_intros <;> kernel_rfl
@[go_sem] theorem Df : cB Tryz.prog 167 = some 1 ∧ cR Tryz.prog 167 = true ∧ ci Tryz.prog 167 = some false ∧ (Tryz.prog.underlying 167).isSome = true ∧ bo Tryz.prog 167 = false ∧ bS Tryz.prog 167 = false ∧ bU Tryz.prog 167 = none ∧ bz Tryz.prog 167 = 16 ∧ bL Tryz.prog 167 = none ∧ bV Tryz.prog 167 = some [.nilIface] := by and_intros <;> kernel_rfl
@[go_sem] theorem Dg : cB Tryz.prog 170 = some 1 ∧ cR Tryz.prog 170 = true ∧ ci Tryz.prog 170 = some false ∧ (Tryz.prog.underlying 170).isSome = true ∧ bo Tryz.prog 170 = false ∧ bS Tryz.prog 170 = false ∧ bU Tryz.prog 170 = none ∧ bz Tryz.prog 170 = 16 ∧ bL Tryz.prog 170 = none ∧ bV Tryz.prog 170 = some [.nilIface] := by and_intros <;> kernel_rfl
@[go_sem] theorem Dh : cB Tryz.prog 181 = some 2 ∧ cR Tryz.prog 181 = true ∧ ci Tryz.prog 181 = some true ∧ (Tryz.prog.underlying 181).isSome = true ∧ bo Tryz.prog 181 = true ∧ bS Tryz.prog 181 = false ∧ bU Tryz.prog 181 = none ∧ bz Tryz.prog 181 = 16 ∧ bL Tryz.prog 181 = none ∧ bV Tryz.prog 181 = some [.int .i64 0,.int .i64 0] ∧ cl Tryz.prog 181 0 = some (0,3) ∧ cl Tryz.prog 181 1 = some (1,3) ∧ da Tryz.prog 181 = some [(0,1),(1,1)] := by and_intros <;> kernel_rfl
@[go_sem] theorem Di : cB Tryz.prog 184 = some 1 ∧ cR Tryz.prog 184 = true ∧ ci Tryz.prog 184 = some false ∧ (Tryz.prog.underlying 184).isSome = true ∧ bo Tryz.prog 184 = true ∧ bS Tryz.prog 184 = false ∧ bU Tryz.prog 184 = none ∧ bz Tryz.prog 184 = 8 ∧ bL Tryz.prog 184 = none ∧ bV Tryz.prog 184 = some [.nilFunc] := by and_intros <;> kernel_rfl
@[go_sem] theorem Dj : cB Tryz.prog 186 = some 1 ∧ cR Tryz.prog 186 = true ∧ ci Tryz.prog 186 = some false ∧ (Tryz.prog.underlying 186).isSome = true ∧ bo Tryz.prog 186 = true ∧ bS Tryz.prog 186 = false ∧ bU Tryz.prog 186 = none ∧ bz Tryz.prog 186 = 8 ∧ bL Tryz.prog 186 = none ∧ bV Tryz.prog 186 = some [.nilFunc] := by and_intros <;> kernel_rfl
@[go_sem] theorem Dk : cB Tryz.prog 187 = some 1 ∧ cR Tryz.prog 187 = true ∧ ci Tryz.prog 187 = some false ∧ (Tryz.prog.underlying 187).isSome = true ∧ bo Tryz.prog 187 = true ∧ bS Tryz.prog 187 = false ∧ bU Tryz.prog 187 = none ∧ bz Tryz.prog 187 = 8 ∧ bL Tryz.prog 187 = none ∧ bV Tryz.prog 187 = some [.map none] := by and_intros <;> kernel_rfl
@[go_sem] theorem Dl : cB Tryz.prog 193 = some 1 ∧ cR Tryz.prog 193 = true ∧ ci Tryz.prog 193 = some false ∧ (Tryz.prog.underlying 193).isSome = true ∧ bo Tryz.prog 193 = true ∧ bS Tryz.prog 193 = false ∧ bU Tryz.prog 193 = none ∧ bz Tryz.prog 193 = 8 ∧ bL Tryz.prog 193 = none ∧ bV Tryz.prog 193 = some [.nilFunc] := by and_intros <;> kernel_rfl
@[go_sem] theorem Dm : cB Tryz.prog 199 = some 1 ∧ cR Tryz.prog 199 = true ∧ ci Tryz.prog 199 = some false ∧ (Tryz.prog.underlying 199).isSome = true ∧ bo Tryz.prog 199 = true ∧ bS Tryz.prog 199 = false ∧ bU Tryz.prog 199 = some .u64 ∧ bz Tryz.prog 199 = 8 ∧ bL Tryz.prog 199 = none ∧ bV Tryz.prog 199 = some [.int .u64 0] := by and_intros <;> kernel_rfl
@[go_sem] theorem Dn : cB Tryz.prog 204 = some 1 ∧ cR Tryz.prog 204 = true ∧ ci Tryz.prog 204 = some false ∧ (Tryz.prog.underlying 204).isSome = true ∧ bo Tryz.prog 204 = true ∧ bS Tryz.prog 204 = false ∧ bU Tryz.prog 204 = some .i64 ∧ bz Tryz.prog 204 = 8 ∧ bL Tryz.prog 204 = none ∧ bV Tryz.prog 204 = some [.int .i64 0] := by and_intros <;> kernel_rfl
@[go_sem] theorem Do : cB Tryz.prog 205 = some 1 ∧ cR Tryz.prog 205 = true ∧ ci Tryz.prog 205 = some false ∧ (Tryz.prog.underlying 205).isSome = true ∧ bo Tryz.prog 205 = true ∧ bS Tryz.prog 205 = false ∧ bU Tryz.prog 205 = none ∧ bz Tryz.prog 205 = 0 ∧ bL Tryz.prog 205 = none := by and_intros <;> kernel_rfl
@[go_sem] theorem Dp : cB Tryz.prog 209 = some 1 ∧ cR Tryz.prog 209 = true ∧ ci Tryz.prog 209 = some false ∧ (Tryz.prog.underlying 209).isSome = true ∧ bo Tryz.prog 209 = true ∧ bS Tryz.prog 209 = false ∧ bU Tryz.prog 209 = none ∧ bz Tryz.prog 209 = 0 ∧ bL Tryz.prog 209 = none := by and_intros <;> kernel_rfl
@[go_sem] theorem Dq : cB Tryz.prog 212 = some 1 ∧ cR Tryz.prog 212 = true ∧ ci Tryz.prog 212 = some false ∧ (Tryz.prog.underlying 212).isSome = true ∧ bo Tryz.prog 212 = true ∧ bS Tryz.prog 212 = false ∧ bU Tryz.prog 212 = some .u32 ∧ bz Tryz.prog 212 = 4 ∧ bL Tryz.prog 212 = none ∧ bV Tryz.prog 212 = some [.int .u32 0] := by and_intros <;> kernel_rfl
@[go_sem] theorem Dr : cB Tryz.prog 214 = some 1 ∧ cR Tryz.prog 214 = true ∧ ci Tryz.prog 214 = some false ∧ (Tryz.prog.underlying 214).isSome = true ∧ bo Tryz.prog 214 = true ∧ bS Tryz.prog 214 = false ∧ bU Tryz.prog 214 = some .u64 ∧ bz Tryz.prog 214 = 8 ∧ bL Tryz.prog 214 = none ∧ bV Tryz.prog 214 = some [.int .u64 0] := by and_intros <;> kernel_rfl
@[go_sem] theorem Ds : cB Tryz.prog 215 = some 1 ∧ cR Tryz.prog 215 = true ∧ ci Tryz.prog 215 = some false ∧ (Tryz.prog.underlying 215).isSome = true ∧ bo Tryz.prog 215 = true ∧ bS Tryz.prog 215 = false ∧ bU Tryz.prog 215 = some .u64 ∧ bz Tryz.prog 215 = 8 ∧ bL Tryz.prog 215 = none ∧ bV Tryz.prog 215 = some [.int .u64 0] := by and_intros <;> kernel_rfl
@[go_sem] theorem Dt : cB Tryz.prog 219 = some 1 ∧ cR Tryz.prog 219 = true ∧ ci Tryz.prog 219 = some false ∧ (Tryz.prog.underlying 219).isSome = true ∧ bo Tryz.prog 219 = true ∧ bS Tryz.prog 219 = false ∧ bU Tryz.prog 219 = none ∧ bz Tryz.prog 219 = 8 ∧ bL Tryz.prog 219 = none ∧ bV Tryz.prog 219 = some [.pointer none] := by and_intros <;> kernel_rfl
@[go_sem] theorem Du : cB Tryz.prog 221 = some 1 ∧ cR Tryz.prog 221 = true ∧ ci Tryz.prog 221 = some false ∧ (Tryz.prog.underlying 221).isSome = true ∧ bo Tryz.prog 221 = true ∧ bS Tryz.prog 221 = false ∧ bU Tryz.prog 221 = none ∧ bz Tryz.prog 221 = 8 ∧ bL Tryz.prog 221 = none ∧ bV Tryz.prog 221 = some [.pointer none] := by and_intros <;> kernel_rfl
@[go_sem] theorem Dv : kI Tryz.prog 187 = some (.i64,3) := by kernel_rfl
@[go_sem] theorem Dw : lI Tryz.prog 3 = some (.int .i64 0) := by kernel_rfl
@[go_sem] theorem Dx : bx Tryz.prog 4 = true := by kernel_rfl
@[go_sem] theorem Dy : bx Tryz.prog 6 = true := by kernel_rfl
@[go_sem] theorem Dz : bx Tryz.prog 7 = true := by kernel_rfl
@[go_sem] theorem DA : bx Tryz.prog 8 = true := by kernel_rfl
@[go_sem] theorem DB : bx Tryz.prog 10 = true := by kernel_rfl
@[go_sem] theorem zQ : bx Tryz.prog 11 = true := by kernel_rfl
@[go_sem] theorem zR : bx Tryz.prog 12 = true := by kernel_rfl
@[go_sem] theorem zS : bx Tryz.prog 14 = true := by kernel_rfl
@[go_sem] theorem zT : bx Tryz.prog 15 = true := by kernel_rfl
@[go_sem] theorem zU : bx Tryz.prog 16 = true := by kernel_rfl
@[go_sem] theorem zV : bx Tryz.prog 17 = true := by kernel_rfl
@[go_sem] theorem zW : bx Tryz.prog 18 = true := by kernel_rfl
@[go_sem] theorem zX : bx Tryz.prog 19 = true := by kernel_rfl
@[go_sem] theorem zY : bx Tryz.prog 20 = true := by kernel_rfl
@[go_sem] theorem zZ : bx Tryz.prog 23 = true := by kernel_rfl
@[go_sem] theorem z1 : bx Tryz.prog 24 = true := by kernel_rfl
@[go_sem] theorem z2 : bx Tryz.prog 26 = true := by kernel_rfl
@[go_sem] theorem z6 : bx Tryz.prog 27 = true := by kernel_rfl
@[go_sem] theorem z7 : bx Tryz.prog 28 = true := by kernel_rfl
@[go_sem] theorem z8 : bx Tryz.prog 31 = true := by kernel_rfl
@[go_sem] theorem Aa : bx Tryz.prog 32 = true := by kernel_rfl
@[go_sem] theorem Ab : bx Tryz.prog 33 = true := by kernel_rfl
@[go_sem] theorem Ac : bx Tryz.prog 34 = true := by kernel_rfl
@[go_sem] theorem Ad : bx Tryz.prog 35 = true := by kernel_rfl
@[go_sem] theorem Ae : bx Tryz.prog 36 = true := by kernel_rfl
@[go_sem] theorem Af : bx Tryz.prog 37 = true := by kernel_rfl
@[go_sem] theorem Ag : bx Tryz.prog 38 = true := by kernel_rfl
@[go_sem] theorem Ah : bx Tryz.prog 39 = true := by kernel_rfl
@[go_sem] theorem Ai : bx Tryz.prog 40 = true := by kernel_rfl
@[go_sem] theorem Aj : bx Tryz.prog 41 = true := by kernel_rfl
@[go_sem] theorem Ak : bx Tryz.prog 42 = true := by kernel_rfl
@[go_sem] theorem Al : bx Tryz.prog 43 = true := by kernel_rfl
@[go_sem] theorem Am : bx Tryz.prog 44 = true := by kernel_rfl
@[go_sem] theorem An : bx Tryz.prog 51 = true := by kernel_rfl
@[go_sem] theorem Ao : bx Tryz.prog 52 = true := by kernel_rfl
@[go_sem] theorem Ap : bx Tryz.prog 53 = true := by kernel_rfl
@[go_sem] theorem Aq : bx Tryz.prog 54 = true := by kernel_rfl
@[go_sem] theorem Ar : bx Tryz.prog 56 = true := by kernel_rfl
@[go_sem] theorem As : bx Tryz.prog 57 = true := by kernel_rfl
@[go_sem] theorem At : bx Tryz.prog 58 = true := by kernel_rfl
@[go_sem] theorem Au : bx Tryz.prog 59 = true := by kernel_rfl
@[go_sem] theorem Av : bx Tryz.prog 63 = false := by kernel_rfl
@[go_sem] theorem Aw : bx Tryz.prog 64 = false := by kernel_rfl
@[go_sem] theorem Ax : bx Tryz.prog 65 = false := by kernel_rfl
@[go_sem] theorem Ay : bx Tryz.prog 66 = true := by kernel_rfl
@[go_sem] theorem Az : bx Tryz.prog 67 = false := by kernel_rfl
@[go_sem] theorem AA : bx Tryz.prog 68 = true := by kernel_rfl
@[go_sem] theorem AB : bx Tryz.prog 69 = true := by kernel_rfl
@[go_sem] theorem AC : bx Tryz.prog 70 = true := by kernel_rfl
@[go_sem] theorem AD : bx Tryz.prog 71 = true := by kernel_rfl
@[go_sem] theorem AE : bx Tryz.prog 72 = true := by kernel_rfl
@[go_sem] theorem AF : bx Tryz.prog 73 = true := by kernel_rfl
@[go_sem] theorem AG : bx Tryz.prog 74 = true := by kernel_rfl
@[go_sem] theorem AH : bx Tryz.prog 75 = true := by kernel_rfl
@[go_sem] theorem AI : bx Tryz.prog 76 = true := by kernel_rfl
@[go_sem] theorem AJ : bx Tryz.prog 77 = true := by kernel_rfl
@[go_sem] theorem AK : bx Tryz.prog 78 = true := by kernel_rfl
@[go_sem] theorem AM : bx Tryz.prog 79 = true := by kernel_rfl
@[go_sem] theorem AN : bx Tryz.prog 80 = true := by kernel_rfl
@[go_sem] theorem AO : bx Tryz.prog 81 = true := by kernel_rfl
@[go_sem] theorem AP : bx Tryz.prog 82 = true := by kernel_rfl
@[go_sem] theorem AQ : bx Tryz.prog 83 = true := by kernel_rfl
@[go_sem] theorem AR : bx Tryz.prog 84 = true := by kernel_rfl
@[go_sem] theorem AS : bx Tryz.prog 85 = true := by kernel_rfl
@[go_sem] theorem AT : bx Tryz.prog 86 = true := by kernel_rfl
@[go_sem] theorem AU : bx Tryz.prog 87 = true := by kernel_rfl
@[go_sem] theorem AW : bx Tryz.prog 96 = true := by kernel_rfl
@[go_sem] theorem AX : bx Tryz.prog 99 = true := by kernel_rfl
@[go_sem] theorem AY : bx Tryz.prog 100 = true := by kernel_rfl
@[go_sem] theorem AZ : bx Tryz.prog 101 = true := by kernel_rfl
@[go_sem] theorem A3 : bx Tryz.prog 102 = false := by kernel_rfl
@[go_sem] theorem A4 : bx Tryz.prog 103 = false := by kernel_rfl
@[go_sem] theorem A5 : bx Tryz.prog 104 = true := by kernel_rfl
@[go_sem] theorem A6 : bx Tryz.prog 105 = true := by kernel_rfl
@[go_sem] theorem A7 : bx Tryz.prog 106 = true := by kernel_rfl
@[go_sem] theorem A8 : bx Tryz.prog 107 = true := by kernel_rfl
@[go_sem] theorem A9 : bx Tryz.prog 108 = true := by kernel_rfl
@[go_sem] theorem Ba : bx Tryz.prog 109 = true := by kernel_rfl
@[go_sem] theorem Bb : bx Tryz.prog 110 = true := by kernel_rfl
@[go_sem] theorem Bc : bx Tryz.prog 111 = true := by kernel_rfl
@[go_sem] theorem Bd : bx Tryz.prog 112 = true := by kernel_rfl
@[go_sem] theorem Be : bx Tryz.prog 113 = true := by kernel_rfl
@[go_sem] theorem Bf : bx Tryz.prog 114 = true := by kernel_rfl
@[go_sem] theorem Bg : bx Tryz.prog 115 = true := by kernel_rfl
@[go_sem] theorem Bh : bx Tryz.prog 117 = true := by kernel_rfl
@[go_sem] theorem Bi : bx Tryz.prog 118 = true := by kernel_rfl
@[go_sem] theorem Bj : bx Tryz.prog 119 = true := by kernel_rfl
@[go_sem] theorem Bk : bx Tryz.prog 120 = true := by kernel_rfl
@[go_sem] theorem Bl : bx Tryz.prog 121 = true := by kernel_rfl
@[go_sem] theorem Bm : bx Tryz.prog 122 = true := by kernel_rfl
@[go_sem] theorem Bn : bx Tryz.prog 123 = true := by kernel_rfl
@[go_sem] theorem Bo : bx Tryz.prog 124 = true := by kernel_rfl
@[go_sem] theorem Bp : bx Tryz.prog 125 = true := by kernel_rfl
@[go_sem] theorem Bq : bx Tryz.prog 127 = true := by kernel_rfl
@[go_sem] theorem Br : bx Tryz.prog 128 = true := by kernel_rfl
@[go_sem] theorem Bs : bx Tryz.prog 129 = true := by kernel_rfl
@[go_sem] theorem Bt : bx Tryz.prog 130 = true := by kernel_rfl
@[go_sem] theorem Bu : bx Tryz.prog 131 = true := by kernel_rfl
@[go_sem] theorem Bv : bx Tryz.prog 132 = true := by kernel_rfl
@[go_sem] theorem Bw : bx Tryz.prog 133 = true := by kernel_rfl
@[go_sem] theorem Bx : bx Tryz.prog 134 = true := by kernel_rfl
@[go_sem] theorem By : bx Tryz.prog 135 = true := by kernel_rfl
@[go_sem] theorem Bz : bx Tryz.prog 136 = true := by kernel_rfl
@[go_sem] theorem BA : bx Tryz.prog 137 = true := by kernel_rfl
@[go_sem] theorem BB : bx Tryz.prog 138 = true := by kernel_rfl
@[go_sem] theorem BC : bx Tryz.prog 139 = true := by kernel_rfl
@[go_sem] theorem BD : bx Tryz.prog 140 = true := by kernel_rfl
@[go_sem] theorem BE : bx Tryz.prog 141 = true := by kernel_rfl
@[go_sem] theorem BF : bx Tryz.prog 142 = true := by kernel_rfl
@[go_sem] theorem BG : bx Tryz.prog 144 = true := by kernel_rfl
@[go_sem] theorem BH : bx Tryz.prog 145 = true := by kernel_rfl
@[go_sem] theorem BI : bx Tryz.prog 146 = true := by kernel_rfl
@[go_sem] theorem BJ : bx Tryz.prog 147 = true := by kernel_rfl
@[go_sem] theorem BK : bx Tryz.prog 148 = true := by kernel_rfl
@[go_sem] theorem BL : bx Tryz.prog 149 = true := by kernel_rfl
@[go_sem] theorem BM : bx Tryz.prog 150 = true := by kernel_rfl
@[go_sem] theorem BN : bx Tryz.prog 151 = true := by kernel_rfl
@[go_sem] theorem BO : bx Tryz.prog 152 = true := by kernel_rfl
@[go_sem] theorem BP : bx Tryz.prog 153 = true := by kernel_rfl
@[go_sem] theorem BQ : bx Tryz.prog 154 = true := by kernel_rfl
@[go_sem] theorem BR : bx Tryz.prog 155 = true := by kernel_rfl
@[go_sem] theorem BS : bx Tryz.prog 156 = true := by kernel_rfl
@[go_sem] theorem BT : bx Tryz.prog 157 = true := by kernel_rfl
@[go_sem] theorem BU : bx Tryz.prog 158 = true := by kernel_rfl
@[go_sem] theorem BV : bx Tryz.prog 159 = true := by kernel_rfl
@[go_sem] theorem BW : bx Tryz.prog 160 = true := by kernel_rfl
@[go_sem] theorem BX : bx Tryz.prog 161 = true := by kernel_rfl
@[go_sem] theorem BY : bx Tryz.prog 176 = false := by kernel_rfl
@[go_sem] theorem BZ : bx Tryz.prog 186 = false := by kernel_rfl
@[go_sem] theorem B5 : bx Tryz.prog 187 = false := by kernel_rfl
@[go_sem] theorem B6 : bx Tryz.prog 188 = false := by kernel_rfl
@[go_sem] theorem B7 : bx Tryz.prog 189 = false := by kernel_rfl
end Go.Proofs.YtmpdocplcgbpkaaGreatDoor

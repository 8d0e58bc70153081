/- What K asks of the types and functions of this seat, as closed facts. Printed by program. -/
import Derived.Test.YtiiaokjgbjhfhaaGreatDoorZ4
import Derived.Test.YtiiaokjgbjhfhaaGreatDoorProg
namespace Go.Proofs.YtiiaokjgbjhfhaaGreatDoor
set_option linter.unusedSimpArgs false
@[go_sem] theorem kk2 : bW Tryz.prog 0 = some 1 ∧ ce Tryz.prog 0 = true ∧ bI Tryz.prog 0 = some false ∧ (Tryz.prog.underlying 0).isSome = true ∧ aV Tryz.prog 0 = true ∧ bn Tryz.prog 0 = false ∧ bo Tryz.prog 0 = none ∧ a6 Tryz.prog 0 = 0 ∧ bg Tryz.prog 0 = none := by and_intros <;> kernel_rfl
@[go_sem] theorem kk3 : bW Tryz.prog 1 = some 1 ∧ ce Tryz.prog 1 = true ∧ bI Tryz.prog 1 = some false ∧ (Tryz.prog.underlying 1).isSome = true ∧ aV Tryz.prog 1 = true ∧ bn Tryz.prog 1 = false ∧ bo Tryz.prog 1 = none ∧ a6 Tryz.prog 1 = 8 ∧ bg Tryz.prog 1 = none ∧ bp Tryz.prog 1 = some [.nilFunc] := by and_intros <;> kernel_rfl
@[go_sem] theorem kk4 : bW Tryz.prog 2 = some 1 ∧ ce Tryz.prog 2 = true ∧ bI Tryz.prog 2 = some false ∧ (Tryz.prog.underlying 2).isSome = true ∧ aV Tryz.prog 2 = true ∧ bn Tryz.prog 2 = false ∧ bo Tryz.prog 2 = some .i64 ∧ a6 Tryz.prog 2 = 8 ∧ bg Tryz.prog 2 = none ∧ bp Tryz.prog 2 = some [.int .i64 0] := by and_intros <;> kernel_rfl
@[go_sem] theorem kk5 : bW Tryz.prog 3 = some 1 ∧ ce Tryz.prog 3 = true ∧ bI Tryz.prog 3 = some false ∧ (Tryz.prog.underlying 3).isSome = true ∧ aV Tryz.prog 3 = true ∧ bn Tryz.prog 3 = false ∧ bo Tryz.prog 3 = some .i64 ∧ a6 Tryz.prog 3 = 8 ∧ bg Tryz.prog 3 = none ∧ bp Tryz.prog 3 = some [.int .i64 0] := by and_intros <;> kernel_rfl
@[go_sem] theorem kk6 : bW Tryz.prog 4 = some 1 ∧ ce Tryz.prog 4 = true ∧ bI Tryz.prog 4 = some false ∧ (Tryz.prog.underlying 4).isSome = true ∧ aV Tryz.prog 4 = true ∧ bn Tryz.prog 4 = false ∧ bo Tryz.prog 4 = none ∧ a6 Tryz.prog 4 = 1 ∧ bg Tryz.prog 4 = none ∧ bp Tryz.prog 4 = some [.bool false] := by and_intros <;> kernel_rfl
@[go_sem] theorem kk7 : bW Tryz.prog 5 = some 1 ∧ ce Tryz.prog 5 = true ∧ bI Tryz.prog 5 = some false ∧ (Tryz.prog.underlying 5).isSome = true ∧ aV Tryz.prog 5 = true ∧ bn Tryz.prog 5 = false ∧ bo Tryz.prog 5 = some .u8 ∧ a6 Tryz.prog 5 = 1 ∧ bg Tryz.prog 5 = none ∧ bp Tryz.prog 5 = some [.int .u8 0] := by and_intros <;> kernel_rfl
@[go_sem] theorem kk8 : bW Tryz.prog 6 = some 1 ∧ ce Tryz.prog 6 = true ∧ bI Tryz.prog 6 = some false ∧ (Tryz.prog.underlying 6).isSome = true ∧ aV Tryz.prog 6 = true ∧ bn Tryz.prog 6 = false ∧ bo Tryz.prog 6 = some .u8 ∧ a6 Tryz.prog 6 = 1 ∧ bg Tryz.prog 6 = none ∧ bp Tryz.prog 6 = some [.int .u8 0] := by and_intros <;> kernel_rfl
@[go_sem] theorem kk9 : bW Tryz.prog 7 = some 4 ∧ ce Tryz.prog 7 = true ∧ bI Tryz.prog 7 = some true ∧ (Tryz.prog.underlying 7).isSome = true ∧ aV Tryz.prog 7 = true ∧ bn Tryz.prog 7 = false ∧ bo Tryz.prog 7 = none ∧ a6 Tryz.prog 7 = 24 ∧ bg Tryz.prog 7 = none ∧ bp Tryz.prog 7 = some [.int .i64 0,.int .i64 0,.bool false,.int .u8 0] ∧ bS Tryz.prog 7 0 = some (0,2) ∧ bS Tryz.prog 7 1 = some (1,3) ∧ bS Tryz.prog 7 2 = some (2,4) ∧ bS Tryz.prog 7 3 = some (3,6) ∧ ct Tryz.prog 7 = some [(0,1),(1,1),(2,1),(3,1)] := by and_intros <;> kernel_rfl
@[go_sem] theorem tv : bW Tryz.prog 8 = some 4 ∧ ce Tryz.prog 8 = true ∧ bI Tryz.prog 8 = some true ∧ (Tryz.prog.underlying 8).isSome = true ∧ aV Tryz.prog 8 = true ∧ bn Tryz.prog 8 = false ∧ bo Tryz.prog 8 = none ∧ a6 Tryz.prog 8 = 24 ∧ bg Tryz.prog 8 = none ∧ bp Tryz.prog 8 = some [.int .i64 0,.int .i64 0,.bool false,.int .u8 0] ∧ bS Tryz.prog 8 0 = some (0,2) ∧ bS Tryz.prog 8 1 = some (1,3) ∧ bS Tryz.prog 8 2 = some (2,4) ∧ bS Tryz.prog 8 3 = some (3,6) ∧ ct Tryz.prog 8 = some [(0,1),(1,1),(2,1),(3,1)] := by and_intros <;> kernel_rfl
@[go_sem] theorem tw : bW Tryz.prog 9 = some 1 ∧ ce Tryz.prog 9 = true ∧ bI Tryz.prog 9 = some false ∧ (Tryz.prog.underlying 9).isSome = true ∧ aV Tryz.prog 9 = true ∧ bn Tryz.prog 9 = true ∧ bo Tryz.prog 9 = none ∧ a6 Tryz.prog 9 = 16 ∧ bg Tryz.prog 9 = none ∧ bp Tryz.prog 9 = some [.string ⟨#[]⟩] := by and_intros <;> kernel_rfl
@[go_sem] theorem tx : bW Tryz.prog 10 = some 1 ∧ ce Tryz.prog 10 = true ∧ bI Tryz.prog 10 = some false ∧ (Tryz.prog.underlying 10).isSome = true ∧ aV Tryz.prog 10 = true ∧ bn Tryz.prog 10 = true ∧ bo Tryz.prog 10 = none ∧ a6 Tryz.prog 10 = 16 ∧ bg Tryz.prog 10 = none ∧ bp Tryz.prog 10 = some [.string ⟨#[]⟩] := by and_intros <;> kernel_rfl
@[go_sem] theorem tz : bW Tryz.prog 11 = some 1 ∧ ce Tryz.prog 11 = true ∧ bI Tryz.prog 11 = some false ∧ (Tryz.prog.underlying 11).isSome = true ∧ aV Tryz.prog 11 = true ∧ bn Tryz.prog 11 = true ∧ bo Tryz.prog 11 = none ∧ a6 Tryz.prog 11 = 16 ∧ bg Tryz.prog 11 = none ∧ bp Tryz.prog 11 = some [.string ⟨#[]⟩] := by and_intros <;> kernel_rfl
@[go_sem] theorem tA : bW Tryz.prog 12 = some 1 ∧ ce Tryz.prog 12 = true ∧ bI Tryz.prog 12 = some false ∧ (Tryz.prog.underlying 12).isSome = true ∧ aV Tryz.prog 12 = true ∧ bn Tryz.prog 12 = false ∧ bo Tryz.prog 12 = some .u64 ∧ a6 Tryz.prog 12 = 8 ∧ bg Tryz.prog 12 = none ∧ bp Tryz.prog 12 = some [.int .u64 0] := by and_intros <;> kernel_rfl
@[go_sem] theorem tB : bW Tryz.prog 13 = some 2 ∧ ce Tryz.prog 13 = true ∧ bI Tryz.prog 13 = some true ∧ (Tryz.prog.underlying 13).isSome = true ∧ aV Tryz.prog 13 = true ∧ bn Tryz.prog 13 = false ∧ bo Tryz.prog 13 = none ∧ a6 Tryz.prog 13 = 24 ∧ bg Tryz.prog 13 = none ∧ bp Tryz.prog 13 = some [.string ⟨#[]⟩,.int .u64 0] ∧ bS Tryz.prog 13 0 = some (0,9) ∧ bS Tryz.prog 13 1 = some (1,12) ∧ ct Tryz.prog 13 = some [(0,1),(1,1)] := by and_intros <;> kernel_rfl
@[go_sem] theorem tC : bW Tryz.prog 14 = some 2 ∧ ce Tryz.prog 14 = true ∧ bI Tryz.prog 14 = some true ∧ (Tryz.prog.underlying 14).isSome = true ∧ aV Tryz.prog 14 = true ∧ bn Tryz.prog 14 = false ∧ bo Tryz.prog 14 = none ∧ a6 Tryz.prog 14 = 24 ∧ bg Tryz.prog 14 = none ∧ bp Tryz.prog 14 = some [.string ⟨#[]⟩,.int .u64 0] ∧ bS Tryz.prog 14 0 = some (0,9) ∧ bS Tryz.prog 14 1 = some (1,12) ∧ ct Tryz.prog 14 = some [(0,1),(1,1)] := by and_intros <;> kernel_rfl
@[go_sem] theorem tD : bW Tryz.prog 15 = some 1 ∧ ce Tryz.prog 15 = true ∧ bI Tryz.prog 15 = some false ∧ (Tryz.prog.underlying 15).isSome = true ∧ aV Tryz.prog 15 = true ∧ bn Tryz.prog 15 = false ∧ bo Tryz.prog 15 = none ∧ a6 Tryz.prog 15 = 8 ∧ bg Tryz.prog 15 = none ∧ bp Tryz.prog 15 = some [.pointer none] := by and_intros <;> kernel_rfl
@[go_sem] theorem tE : bW Tryz.prog 16 = some 1 ∧ ce Tryz.prog 16 = true ∧ bI Tryz.prog 16 = some false ∧ (Tryz.prog.underlying 16).isSome = true ∧ aV Tryz.prog 16 = true ∧ bn Tryz.prog 16 = false ∧ bo Tryz.prog 16 = none ∧ a6 Tryz.prog 16 = 8 ∧ bg Tryz.prog 16 = none ∧ bp Tryz.prog 16 = some [.pointer none] := by and_intros <;> kernel_rfl
@[go_sem] theorem tF : bW Tryz.prog 17 = some 1 ∧ ce Tryz.prog 17 = true ∧ bI Tryz.prog 17 = some false ∧ (Tryz.prog.underlying 17).isSome = true ∧ aV Tryz.prog 17 = true ∧ bn Tryz.prog 17 = false ∧ bo Tryz.prog 17 = none ∧ a6 Tryz.prog 17 = 8 ∧ bg Tryz.prog 17 = none ∧ bp Tryz.prog 17 = some [.pointer none] := by and_intros <;> kernel_rfl
@[go_sem] theorem tG : bW Tryz.prog 18 = some 1 ∧ ce Tryz.prog 18 = true ∧ bI Tryz.prog 18 = some true ∧ (Tryz.prog.underlying 18).isSome = true ∧ aV Tryz.prog 18 = true ∧ bn Tryz.prog 18 = false ∧ bo Tryz.prog 18 = none ∧ a6 Tryz.prog 18 = 8 ∧ bg Tryz.prog 18 = none ∧ bp Tryz.prog 18 = some [.pointer none] ∧ bS Tryz.prog 18 0 = some (0,17) ∧ ct Tryz.prog 18 = some [(0,1)] := by and_intros <;> kernel_rfl
@[go_sem] theorem tH : bW Tryz.prog 19 = some 1 ∧ ce Tryz.prog 19 = true ∧ bI Tryz.prog 19 = some true ∧ (Tryz.prog.underlying 19).isSome = true ∧ aV Tryz.prog 19 = true ∧ bn Tryz.prog 19 = false ∧ bo Tryz.prog 19 = none ∧ a6 Tryz.prog 19 = 8 ∧ bg Tryz.prog 19 = none ∧ bp Tryz.prog 19 = some [.pointer none] ∧ bS Tryz.prog 19 0 = some (0,17) ∧ ct Tryz.prog 19 = some [(0,1)] := by and_intros <;> kernel_rfl
@[go_sem] theorem tI : bW Tryz.prog 20 = some 1 ∧ ce Tryz.prog 20 = true ∧ bI Tryz.prog 20 = some false ∧ (Tryz.prog.underlying 20).isSome = true ∧ aV Tryz.prog 20 = false ∧ bn Tryz.prog 20 = false ∧ bo Tryz.prog 20 = none ∧ a6 Tryz.prog 20 = 16 ∧ bg Tryz.prog 20 = none ∧ bp Tryz.prog 20 = some [.nilIface] := by and_intros <;> kernel_rfl
@[go_sem] theorem tJ : bW Tryz.prog 21 = some 1 ∧ ce Tryz.prog 21 = true ∧ bI Tryz.prog 21 = some false ∧ (Tryz.prog.underlying 21).isSome = true ∧ aV Tryz.prog 21 = true ∧ bn Tryz.prog 21 = false ∧ bo Tryz.prog 21 = some .i32 ∧ a6 Tryz.prog 21 = 4 ∧ bg Tryz.prog 21 = none ∧ bp Tryz.prog 21 = some [.int .i32 0] := by and_intros <;> kernel_rfl
@[go_sem] theorem tK : bW Tryz.prog 22 = some 1 ∧ ce Tryz.prog 22 = true ∧ bI Tryz.prog 22 = some false ∧ (Tryz.prog.underlying 22).isSome = true ∧ aV Tryz.prog 22 = true ∧ bn Tryz.prog 22 = false ∧ bo Tryz.prog 22 = none ∧ a6 Tryz.prog 22 = 24 ∧ bg Tryz.prog 22 = some 38 ∧ bp Tryz.prog 22 = some [.slice none 0 0] := by and_intros <;> kernel_rfl
@[go_sem] theorem tL : bW Tryz.prog 23 = some 1 ∧ ce Tryz.prog 23 = true ∧ bI Tryz.prog 23 = some false ∧ (Tryz.prog.underlying 23).isSome = true ∧ aV Tryz.prog 23 = true ∧ bn Tryz.prog 23 = false ∧ bo Tryz.prog 23 = none ∧ a6 Tryz.prog 23 = 24 ∧ bg Tryz.prog 23 = some 3 ∧ bp Tryz.prog 23 = some [.slice none 0 0] := by and_intros <;> kernel_rfl
@[go_sem] theorem tM : bW Tryz.prog 24 = some 1 ∧ ce Tryz.prog 24 = true ∧ bI Tryz.prog 24 = some false ∧ (Tryz.prog.underlying 24).isSome = true ∧ aV Tryz.prog 24 = true ∧ bn Tryz.prog 24 = false ∧ bo Tryz.prog 24 = none ∧ a6 Tryz.prog 24 = 8 ∧ bg Tryz.prog 24 = none ∧ bp Tryz.prog 24 = some [.nilFunc] := by and_intros <;> kernel_rfl
@[go_sem] theorem tN : bW Tryz.prog 25 = some 1 ∧ ce Tryz.prog 25 = true ∧ bI Tryz.prog 25 = some false ∧ (Tryz.prog.underlying 25).isSome = true ∧ aV Tryz.prog 25 = false ∧ bn Tryz.prog 25 = false ∧ bo Tryz.prog 25 = none ∧ a6 Tryz.prog 25 = 16 ∧ bg Tryz.prog 25 = none ∧ bp Tryz.prog 25 = some [.nilIface] := by and_intros <;> kernel_rfl
@[go_sem] theorem tO : bW Tryz.prog 26 = some 1 ∧ ce Tryz.prog 26 = true ∧ bI Tryz.prog 26 = some false ∧ (Tryz.prog.underlying 26).isSome = true ∧ aV Tryz.prog 26 = false ∧ bn Tryz.prog 26 = false ∧ bo Tryz.prog 26 = none ∧ a6 Tryz.prog 26 = 16 ∧ bg Tryz.prog 26 = none ∧ bp Tryz.prog 26 = some [.nilIface] := by and_intros <;> kernel_rfl
@[go_sem] theorem tP : bW Tryz.prog 27 = some 1 ∧ ce Tryz.prog 27 = true ∧ bI Tryz.prog 27 = some false ∧ (Tryz.prog.underlying 27).isSome = true ∧ aV Tryz.prog 27 = true ∧ bn Tryz.prog 27 = false ∧ bo Tryz.prog 27 = none ∧ a6 Tryz.prog 27 = 0 ∧ bg Tryz.prog 27 = none := by and_intros <;> kernel_rfl
@[go_sem] theorem tQ : bW Tryz.prog 28 = some 1 ∧ ce Tryz.prog 28 = true ∧ bI Tryz.prog 28 = some false ∧ (Tryz.prog.underlying 28).isSome = true ∧ aV Tryz.prog 28 = true ∧ bn Tryz.prog 28 = false ∧ bo Tryz.prog 28 = none ∧ a6 Tryz.prog 28 = 8 ∧ bg Tryz.prog 28 = none ∧ bp Tryz.prog 28 = some [.nilFunc] := by and_intros <;> kernel_rfl
@[go_sem] theorem tR : bW Tryz.prog 29 = some 1 ∧ ce Tryz.prog 29 = true ∧ bI Tryz.prog 29 = some false ∧ (Tryz.prog.underlying 29).isSome = true ∧ aV Tryz.prog 29 = true ∧ bn Tryz.prog 29 = false ∧ bo Tryz.prog 29 = none ∧ a6 Tryz.prog 29 = 0 ∧ bg Tryz.prog 29 = none := by and_intros <;> kernel_rfl
@[go_sem] theorem tS : bW Tryz.prog 30 = some 1 ∧ ce Tryz.prog 30 = true ∧ bI Tryz.prog 30 = some false ∧ (Tryz.prog.underlying 30).isSome = true ∧ aV Tryz.prog 30 = true ∧ bn Tryz.prog 30 = false ∧ bo Tryz.prog 30 = none ∧ a6 Tryz.prog 30 = 8 ∧ bg Tryz.prog 30 = none ∧ bp Tryz.prog 30 = some [.nilFunc] := by and_intros <;> kernel_rfl
@[go_sem] theorem tT : bW Tryz.prog 31 = some 1 ∧ ce Tryz.prog 31 = true ∧ bI Tryz.prog 31 = some false ∧ (Tryz.prog.underlying 31).isSome = true ∧ aV Tryz.prog 31 = true ∧ bn Tryz.prog 31 = false ∧ bo Tryz.prog 31 = none ∧ a6 Tryz.prog 31 = 8 ∧ bg Tryz.prog 31 = none ∧ bp Tryz.prog 31 = some [.nilFunc] := by and_intros <;> kernel_rfl
@[go_sem] theorem tU : bW Tryz.prog 32 = some 1 ∧ ce Tryz.prog 32 = true ∧ bI Tryz.prog 32 = some false ∧ (Tryz.prog.underlying 32).isSome = true ∧ aV Tryz.prog 32 = true ∧ bn Tryz.prog 32 = false ∧ bo Tryz.prog 32 = none ∧ a6 Tryz.prog 32 = 8 ∧ bg Tryz.prog 32 = none ∧ bp Tryz.prog 32 = some [.nilFunc] := by and_intros <;> kernel_rfl
@[go_sem] theorem tV : bW Tryz.prog 33 = some 1 ∧ ce Tryz.prog 33 = true ∧ bI Tryz.prog 33 = some false ∧ (Tryz.prog.underlying 33).isSome = true ∧ aV Tryz.prog 33 = true ∧ bn Tryz.prog 33 = false ∧ bo Tryz.prog 33 = none ∧ a6 Tryz.prog 33 = 8 ∧ bg Tryz.prog 33 = none ∧ bp Tryz.prog 33 = some [.nilFunc] := by and_intros <;> kernel_rfl
@[go_sem] theorem tW : bW Tryz.prog 34 = some 1 ∧ ce Tryz.prog 34 = true ∧ bI Tryz.prog 34 = some false ∧ (Tryz.prog.underlying 34).isSome = true ∧ aV Tryz.prog 34 = true ∧ bn Tryz.prog 34 = false ∧ bo Tryz.prog 34 = none ∧ a6 Tryz.prog 34 = 0 ∧ bg Tryz.prog 34 = none := by and_intros <;> kernel_rfl
@[go_sem] theorem tX : bW Tryz.prog 35 = some 1 ∧ ce Tryz.prog 35 = true ∧ bI Tryz.prog 35 = some false ∧ (Tryz.prog.underlying 35).isSome = true ∧ aV Tryz.prog 35 = true ∧ bn Tryz.prog 35 = false ∧ bo Tryz.prog 35 = none ∧ a6 Tryz.prog 35 = 8 ∧ bg Tryz.prog 35 = none ∧ bp Tryz.prog 35 = some [.nilFunc] := by and_intros <;> kernel_rfl
@[go_sem] theorem tY : bW Tryz.prog 36 = some 1 ∧ ce Tryz.prog 36 = true ∧ bI Tryz.prog 36 = some false ∧ (Tryz.prog.underlying 36).isSome = true ∧ aV Tryz.prog 36 = true ∧ bn Tryz.prog 36 = false ∧ bo Tryz.prog 36 = none ∧ a6 Tryz.prog 36 = 24 ∧ bg Tryz.prog 36 = some 57 ∧ bp Tryz.prog 36 = some [.slice none 0 0] := by and_intros <;> kernel_rfl
@[go_sem] theorem tZ : bW Tryz.prog 37 = some 2 ∧ ce Tryz.prog 37 = true ∧ bI Tryz.prog 37 = some true ∧ (Tryz.prog.underlying 37).isSome = true ∧ aV Tryz.prog 37 = true ∧ bn Tryz.prog 37 = false ∧ bo Tryz.prog 37 = none ∧ a6 Tryz.prog 37 = 32 ∧ bg Tryz.prog 37 = none ∧ bp Tryz.prog 37 = some [.int .i64 0,.slice none 0 0] ∧ bS Tryz.prog 37 0 = some (0,3) ∧ bS Tryz.prog 37 1 = some (1,36) ∧ ct Tryz.prog 37 = some [(0,1),(1,1)] := by and_intros <;> kernel_rfl
@[go_sem] theorem t5 : bW Tryz.prog 38 = some 2 ∧ ce Tryz.prog 38 = true ∧ bI Tryz.prog 38 = some true ∧ (Tryz.prog.underlying 38).isSome = true ∧ aV Tryz.prog 38 = true ∧ bn Tryz.prog 38 = false ∧ bo Tryz.prog 38 = none ∧ a6 Tryz.prog 38 = 32 ∧ bg Tryz.prog 38 = none ∧ bp Tryz.prog 38 = some [.int .i64 0,.slice none 0 0] ∧ bS Tryz.prog 38 0 = some (0,3) ∧ bS Tryz.prog 38 1 = some (1,36) ∧ ct Tryz.prog 38 = some [(0,1),(1,1)] := by and_intros <;> kernel_rfl
@[go_sem] theorem t6 : bW Tryz.prog 39 = some 1 ∧ ce Tryz.prog 39 = true ∧ bI Tryz.prog 39 = some false ∧ (Tryz.prog.underlying 39).isSome = true ∧ aV Tryz.prog 39 = true ∧ bn Tryz.prog 39 = false ∧ bo Tryz.prog 39 = none ∧ a6 Tryz.prog 39 = 8 ∧ bg Tryz.prog 39 = none ∧ bp Tryz.prog 39 = some [.nilFunc] := by and_intros <;> kernel_rfl
@[go_sem] theorem t7 : bW Tryz.prog 40 = some 1 ∧ ce Tryz.prog 40 = true ∧ bI Tryz.prog 40 = some false ∧ (Tryz.prog.underlying 40).isSome = true ∧ aV Tryz.prog 40 = true ∧ bn Tryz.prog 40 = false ∧ bo Tryz.prog 40 = none ∧ a6 Tryz.prog 40 = 24 ∧ bg Tryz.prog 40 = some 23 ∧ bp Tryz.prog 40 = some [.slice none 0 0] := by and_intros <;> kernel_rfl
@[go_sem] theorem t8 : bW Tryz.prog 41 = some 1 ∧ ce Tryz.prog 41 = true ∧ bI Tryz.prog 41 = some false ∧ (Tryz.prog.underlying 41).isSome = true ∧ aV Tryz.prog 41 = true ∧ bn Tryz.prog 41 = false ∧ bo Tryz.prog 41 = none ∧ a6 Tryz.prog 41 = 24 ∧ bg Tryz.prog 41 = some 71 ∧ bp Tryz.prog 41 = some [.slice none 0 0] := by and_intros <;> kernel_rfl
@[go_sem] theorem ua : bW Tryz.prog 42 = some 2 ∧ ce Tryz.prog 42 = true ∧ bI Tryz.prog 42 = some true ∧ (Tryz.prog.underlying 42).isSome = true ∧ aV Tryz.prog 42 = true ∧ bn Tryz.prog 42 = false ∧ bo Tryz.prog 42 = none ∧ a6 Tryz.prog 42 = 48 ∧ bg Tryz.prog 42 = none ∧ bp Tryz.prog 42 = some [.slice none 0 0,.slice none 0 0] ∧ bS Tryz.prog 42 0 = some (0,41) ∧ bS Tryz.prog 42 1 = some (1,40) ∧ ct Tryz.prog 42 = some [(0,1),(1,1)] := by and_intros <;> kernel_rfl
@[go_sem] theorem ub : bW Tryz.prog 43 = some 2 ∧ ce Tryz.prog 43 = true ∧ bI Tryz.prog 43 = some true ∧ (Tryz.prog.underlying 43).isSome = true ∧ aV Tryz.prog 43 = true ∧ bn Tryz.prog 43 = false ∧ bo Tryz.prog 43 = none ∧ a6 Tryz.prog 43 = 48 ∧ bg Tryz.prog 43 = none ∧ bp Tryz.prog 43 = some [.slice none 0 0,.slice none 0 0] ∧ bS Tryz.prog 43 0 = some (0,41) ∧ bS Tryz.prog 43 1 = some (1,40) ∧ ct Tryz.prog 43 = some [(0,1),(1,1)] := by and_intros <;> kernel_rfl
@[go_sem] theorem uc : bW Tryz.prog 44 = some 1 ∧ ce Tryz.prog 44 = true ∧ bI Tryz.prog 44 = some false ∧ (Tryz.prog.underlying 44).isSome = true ∧ aV Tryz.prog 44 = true ∧ bn Tryz.prog 44 = false ∧ bo Tryz.prog 44 = none ∧ a6 Tryz.prog 44 = 8 ∧ bg Tryz.prog 44 = none ∧ bp Tryz.prog 44 = some [.nilFunc] := by and_intros <;> kernel_rfl
@[go_sem] theorem ud : bW Tryz.prog 45 = some 1 ∧ ce Tryz.prog 45 = true ∧ bI Tryz.prog 45 = some false ∧ (Tryz.prog.underlying 45).isSome = true ∧ aV Tryz.prog 45 = true ∧ bn Tryz.prog 45 = false ∧ bo Tryz.prog 45 = none ∧ a6 Tryz.prog 45 = 24 ∧ bg Tryz.prog 45 = some 47 ∧ bp Tryz.prog 45 = some [.slice none 0 0] := by and_intros <;> kernel_rfl
@[go_sem] theorem ue : bW Tryz.prog 47 = some 4 ∧ ce Tryz.prog 47 = true ∧ bI Tryz.prog 47 = some true ∧ (Tryz.prog.underlying 47).isSome = true ∧ aV Tryz.prog 47 = true ∧ bn Tryz.prog 47 = false ∧ bo Tryz.prog 47 = none ∧ a6 Tryz.prog 47 = 64 ∧ bg Tryz.prog 47 = none ∧ bp Tryz.prog 47 = some [.int .i64 0,.int .i64 0,.slice none 0 0,.slice none 0 0] ∧ bS Tryz.prog 47 0 = some (0,3) ∧ bS Tryz.prog 47 1 = some (1,38) ∧ bS Tryz.prog 47 2 = some (3,45) ∧ ct Tryz.prog 47 = some [(0,1),(1,2),(3,1)] := by and_intros <;> kernel_rfl
@[go_sem] theorem uf : bW Tryz.prog 49 = some 1 ∧ ce Tryz.prog 49 = true ∧ bI Tryz.prog 49 = some false ∧ (Tryz.prog.underlying 49).isSome = true ∧ aV Tryz.prog 49 = true ∧ bn Tryz.prog 49 = false ∧ bo Tryz.prog 49 = some .i64 ∧ a6 Tryz.prog 49 = 8 ∧ bg Tryz.prog 49 = none ∧ bp Tryz.prog 49 = some [.int .i64 0] := by and_intros <;> kernel_rfl
@[go_sem] theorem ug : bW Tryz.prog 52 = some 1 ∧ ce Tryz.prog 52 = true ∧ bI Tryz.prog 52 = some false ∧ (Tryz.prog.underlying 52).isSome = true ∧ aV Tryz.prog 52 = true ∧ bn Tryz.prog 52 = false ∧ bo Tryz.prog 52 = none ∧ a6 Tryz.prog 52 = 8 ∧ bg Tryz.prog 52 = none ∧ bp Tryz.prog 52 = some [.nilFunc] := by and_intros <;> kernel_rfl
@[go_sem] theorem uh : bW Tryz.prog 54 = some 1 ∧ ce Tryz.prog 54 = true ∧ bI Tryz.prog 54 = some false ∧ (Tryz.prog.underlying 54).isSome = true ∧ aV Tryz.prog 54 = true ∧ bn Tryz.prog 54 = false ∧ bo Tryz.prog 54 = none ∧ a6 Tryz.prog 54 = 8 ∧ bg Tryz.prog 54 = none ∧ bp Tryz.prog 54 = some [.nilFunc] := by and_intros <;> kernel_rfl
@[go_sem] theorem uk : bW Tryz.prog 57 = some 2 ∧ ce Tryz.prog 57 = true ∧ bI Tryz.prog 57 = some true ∧ (Tryz.prog.underlying 57).isSome = true ∧ aV Tryz.prog 57 = true ∧ bn Tryz.prog 57 = false ∧ bo Tryz.prog 57 = none ∧ a6 Tryz.prog 57 = 16 ∧ bg Tryz.prog 57 = none ∧ bp Tryz.prog 57 = some [.int .i64 0,.int .i64 0] ∧ bS Tryz.prog 57 0 = some (0,3) ∧ bS Tryz.prog 57 1 = some (1,3) ∧ ct Tryz.prog 57 = some [(0,1),(1,1)] := by and_intros <;> kernel_rfl
@[go_sem] theorem ul : bW Tryz.prog 66 = some 3 ∧ ce Tryz.prog 66 = true ∧ bI Tryz.prog 66 = some true ∧ (Tryz.prog.underlying 66).isSome = true ∧ aV Tryz.prog 66 = true ∧ bn Tryz.prog 66 = false ∧ bo Tryz.prog 66 = none ∧ a6 Tryz.prog 66 = 56 ∧ bg Tryz.prog 66 = none ∧ bp Tryz.prog 66 = some [.int .i64 0,.slice none 0 0,.slice none 0 0] ∧ bS Tryz.prog 66 0 = some (0,3) ∧ bS Tryz.prog 66 1 = some (1,22) ∧ bS Tryz.prog 66 2 = some (2,40) ∧ ct Tryz.prog 66 = some [(0,1),(1,1),(2,1)] := by and_intros <;> kernel_rfl
@[go_sem] theorem um : bW Tryz.prog 69 = some 1 ∧ ce Tryz.prog 69 = true ∧ bI Tryz.prog 69 = some false ∧ (Tryz.prog.underlying 69).isSome = true ∧ aV Tryz.prog 69 = true ∧ bn Tryz.prog 69 = false ∧ bo Tryz.prog 69 = none ∧ a6 Tryz.prog 69 = 24 ∧ bg Tryz.prog 69 = some 150 ∧ bp Tryz.prog 69 = some [.slice none 0 0] := by and_intros <;> kernel_rfl
@[go_sem] theorem un : bW Tryz.prog 71 = some 2 ∧ ce Tryz.prog 71 = true ∧ bI Tryz.prog 71 = some true ∧ (Tryz.prog.underlying 71).isSome = true ∧ aV Tryz.prog 71 = true ∧ bn Tryz.prog 71 = false ∧ bo Tryz.prog 71 = none ∧ a6 Tryz.prog 71 = 48 ∧ bg Tryz.prog 71 = none ∧ bp Tryz.prog 71 = some [.slice none 0 0,.slice none 0 0] ∧ bS Tryz.prog 71 0 = some (0,23) ∧ bS Tryz.prog 71 1 = some (1,69) ∧ ct Tryz.prog 71 = some [(0,1),(1,1)] := by and_intros <;> kernel_rfl
@[go_sem] theorem uo : bW Tryz.prog 73 = some 1 ∧ ce Tryz.prog 73 = true ∧ bI Tryz.prog 73 = some false ∧ (Tryz.prog.underlying 73).isSome = true ∧ aV Tryz.prog 73 = true ∧ bn Tryz.prog 73 = false ∧ bo Tryz.prog 73 = none ∧ a6 Tryz.prog 73 = 8 ∧ bg Tryz.prog 73 = none ∧ bp Tryz.prog 73 = some [.pointer none] := by and_intros <;> kernel_rfl
@[go_sem] theorem up : bW Tryz.prog 75 = some 2 ∧ ce Tryz.prog 75 = true ∧ bI Tryz.prog 75 = some true ∧ (Tryz.prog.underlying 75).isSome = true ∧ aV Tryz.prog 75 = true ∧ bn Tryz.prog 75 = false ∧ bo Tryz.prog 75 = none ∧ a6 Tryz.prog 75 = 24 ∧ bg Tryz.prog 75 = none ∧ bp Tryz.prog 75 = some [.int .i64 0,.nilIface] ∧ bS Tryz.prog 75 0 = some (0,3) ∧ bS Tryz.prog 75 1 = some (1,26) ∧ ct Tryz.prog 75 = some [(0,1),(1,1)] := by and_intros <;> kernel_rfl
@[go_sem] theorem uq : bW Tryz.prog 78 = some 1 ∧ ce Tryz.prog 78 = true ∧ bI Tryz.prog 78 = some false ∧ (Tryz.prog.underlying 78).isSome = true ∧ aV Tryz.prog 78 = true ∧ bn Tryz.prog 78 = false ∧ bo Tryz.prog 78 = none ∧ a6 Tryz.prog 78 = 8 ∧ bg Tryz.prog 78 = none ∧ bp Tryz.prog 78 = some [.pointer none] := by and_intros <;> kernel_rfl
@[go_sem] theorem ur : bW Tryz.prog 85 = some 1 ∧ ce Tryz.prog 85 = true ∧ bI Tryz.prog 85 = some false ∧ (Tryz.prog.underlying 85).isSome = true ∧ aV Tryz.prog 85 = true ∧ bn Tryz.prog 85 = false ∧ bo Tryz.prog 85 = none ∧ a6 Tryz.prog 85 = 8 ∧ bg Tryz.prog 85 = none ∧ bp Tryz.prog 85 = some [.nilFunc] := by and_intros <;> kernel_rfl
@[go_sem] theorem ut : bW Tryz.prog 86 = some 1 ∧ ce Tryz.prog 86 = true ∧ bI Tryz.prog 86 = some false ∧ (Tryz.prog.underlying 86).isSome = true ∧ aV Tryz.prog 86 = true ∧ bn Tryz.prog 86 = false ∧ bo Tryz.prog 86 = none ∧ a6 Tryz.prog 86 = 8 ∧ bg Tryz.prog 86 = none ∧ bp Tryz.prog 86 = some [.pointer none] := by and_intros <;> kernel_rfl
@[go_sem] theorem uu : bW Tryz.prog 88 = some 4 ∧ ce Tryz.prog 88 = true ∧ bI Tryz.prog 88 = some true ∧ (Tryz.prog.underlying 88).isSome = true ∧ aV Tryz.prog 88 = true ∧ bn Tryz.prog 88 = false ∧ bo Tryz.prog 88 = none ∧ a6 Tryz.prog 88 = 64 ∧ bg Tryz.prog 88 = none ∧ bp Tryz.prog 88 = some [.int .i64 0,.slice none 0 0,.slice none 0 0,.bool false] ∧ bS Tryz.prog 88 0 = some (0,66) ∧ bS Tryz.prog 88 1 = some (3,4) ∧ ct Tryz.prog 88 = some [(0,3),(3,1)] := by and_intros <;> kernel_rfl
@[go_sem] theorem uv : bW Tryz.prog 97 = some 1 ∧ ce Tryz.prog 97 = true ∧ bI Tryz.prog 97 = some false ∧ (Tryz.prog.underlying 97).isSome = true ∧ aV Tryz.prog 97 = true ∧ bn Tryz.prog 97 = false ∧ bo Tryz.prog 97 = none ∧ a6 Tryz.prog 97 = 8 ∧ bg Tryz.prog 97 = none ∧ bp Tryz.prog 97 = some [.nilFunc] := by and_intros <;> kernel_rfl
@[go_sem] theorem uw : bW Tryz.prog 98 = some 1 ∧ ce Tryz.prog 98 = true ∧ bI Tryz.prog 98 = some false ∧ (Tryz.prog.underlying 98).isSome = true ∧ aV Tryz.prog 98 = true ∧ bn Tryz.prog 98 = false ∧ bo Tryz.prog 98 = none ∧ a6 Tryz.prog 98 = 8 ∧ bg Tryz.prog 98 = none ∧ bp Tryz.prog 98 = some [.pointer none] := by and_intros <;> kernel_rfl
@[go_sem] theorem ux : bW Tryz.prog 99 = some 1 ∧ ce Tryz.prog 99 = true ∧ bI Tryz.prog 99 = some false ∧ (Tryz.prog.underlying 99).isSome = true ∧ aV Tryz.prog 99 = true ∧ bn Tryz.prog 99 = false ∧ bo Tryz.prog 99 = some .u64 ∧ a6 Tryz.prog 99 = 8 ∧ bg Tryz.prog 99 = none ∧ bp Tryz.prog 99 = some [.int .u64 0] := by and_intros <;> kernel_rfl
@[go_sem] theorem uy : bW Tryz.prog 101 = some 3 ∧ ce Tryz.prog 101 = true ∧ bI Tryz.prog 101 = some true ∧ (Tryz.prog.underlying 101).isSome = true ∧ aV Tryz.prog 101 = true ∧ bn Tryz.prog 101 = false ∧ bo Tryz.prog 101 = none ∧ a6 Tryz.prog 101 = 24 ∧ bg Tryz.prog 101 = none ∧ bp Tryz.prog 101 = some [.pointer none,.pointer none,.int .u64 0] ∧ bS Tryz.prog 101 0 = some (0,17) ∧ bS Tryz.prog 101 1 = some (1,98) ∧ bS Tryz.prog 101 2 = some (2,99) ∧ ct Tryz.prog 101 = some [(0,1),(1,1),(2,1)] := by and_intros <;> kernel_rfl
@[go_sem] theorem uz : bW Tryz.prog 104 = some 1 ∧ ce Tryz.prog 104 = true ∧ bI Tryz.prog 104 = some false ∧ (Tryz.prog.underlying 104).isSome = true ∧ aV Tryz.prog 104 = false ∧ bn Tryz.prog 104 = false ∧ bo Tryz.prog 104 = none ∧ a6 Tryz.prog 104 = 16 ∧ bg Tryz.prog 104 = none ∧ bp Tryz.prog 104 = some [.nilIface] := by and_intros <;> kernel_rfl
@[go_sem] theorem uA : bW Tryz.prog 106 = some 1 ∧ ce Tryz.prog 106 = true ∧ bI Tryz.prog 106 = some false ∧ (Tryz.prog.underlying 106).isSome = true ∧ aV Tryz.prog 106 = true ∧ bn Tryz.prog 106 = false ∧ bo Tryz.prog 106 = some .u8 ∧ a6 Tryz.prog 106 = 1 ∧ bg Tryz.prog 106 = none ∧ bp Tryz.prog 106 = some [.int .u8 0] := by and_intros <;> kernel_rfl
@[go_sem] theorem uB : bW Tryz.prog 113 = some 1 ∧ ce Tryz.prog 113 = true ∧ bI Tryz.prog 113 = some false ∧ (Tryz.prog.underlying 113).isSome = true ∧ aV Tryz.prog 113 = true ∧ bn Tryz.prog 113 = false ∧ bo Tryz.prog 113 = none ∧ a6 Tryz.prog 113 = 8 ∧ bg Tryz.prog 113 = none ∧ bp Tryz.prog 113 = some [.nilFunc] := by and_intros <;> kernel_rfl
@[go_sem] theorem uC : bW Tryz.prog 115 = some 1 ∧ ce Tryz.prog 115 = true ∧ bI Tryz.prog 115 = some false ∧ (Tryz.prog.underlying 115).isSome = true ∧ aV Tryz.prog 115 = true ∧ bn Tryz.prog 115 = false ∧ bo Tryz.prog 115 = none ∧ a6 Tryz.prog 115 = 8 ∧ bg Tryz.prog 115 = none ∧ bp Tryz.prog 115 = some [.nilFunc] := by and_intros <;> kernel_rfl
@[go_sem] theorem uD : bW Tryz.prog 122 = some 1 ∧ ce Tryz.prog 122 = true ∧ bI Tryz.prog 122 = some false ∧ (Tryz.prog.underlying 122).isSome = true ∧ aV Tryz.prog 122 = true ∧ bn Tryz.prog 122 = false ∧ bo Tryz.prog 122 = none ∧ a6 Tryz.prog 122 = 24 ∧ bg Tryz.prog 122 = some 40 ∧ bp Tryz.prog 122 = some [.slice none 0 0] := by and_intros <;> kernel_rfl
@[go_sem] theorem uE : bW Tryz.prog 124 = some 1 ∧ ce Tryz.prog 124 = true ∧ bI Tryz.prog 124 = some false ∧ (Tryz.prog.underlying 124).isSome = true ∧ aV Tryz.prog 124 = true ∧ bn Tryz.prog 124 = false ∧ bo Tryz.prog 124 = none ∧ a6 Tryz.prog 124 = 8 ∧ bg Tryz.prog 124 = none ∧ bp Tryz.prog 124 = some [.pointer none] := by and_intros <;> kernel_rfl
@[go_sem] theorem uF : bW Tryz.prog 126 = some 2 ∧ ce Tryz.prog 126 = true ∧ bI Tryz.prog 126 = some true ∧ (Tryz.prog.underlying 126).isSome = true ∧ aV Tryz.prog 126 = true ∧ bn Tryz.prog 126 = false ∧ bo Tryz.prog 126 = none ∧ a6 Tryz.prog 126 = 48 ∧ bg Tryz.prog 126 = none ∧ bp Tryz.prog 126 = some [.slice none 0 0,.slice none 0 0] ∧ bS Tryz.prog 126 0 = some (0,23) ∧ bS Tryz.prog 126 1 = some (1,23) ∧ ct Tryz.prog 126 = some [(0,1),(1,1)] := by and_intros <;> kernel_rfl
@[go_sem] theorem uG : bW Tryz.prog 133 = some 1 ∧ ce Tryz.prog 133 = true ∧ bI Tryz.prog 133 = some false ∧ (Tryz.prog.underlying 133).isSome = true ∧ aV Tryz.prog 133 = false ∧ bn Tryz.prog 133 = false ∧ bo Tryz.prog 133 = none ∧ a6 Tryz.prog 133 = 16 ∧ bg Tryz.prog 133 = none ∧ bp Tryz.prog 133 = some [.nilIface] := by and_intros <;> kernel_rfl
@[go_sem] theorem uH : bW Tryz.prog 136 = some 1 ∧ ce Tryz.prog 136 = true ∧ bI Tryz.prog 136 = some false ∧ (Tryz.prog.underlying 136).isSome = true ∧ aV Tryz.prog 136 = false ∧ bn Tryz.prog 136 = false ∧ bo Tryz.prog 136 = none ∧ a6 Tryz.prog 136 = 16 ∧ bg Tryz.prog 136 = none ∧ bp Tryz.prog 136 = some [.nilIface] := by and_intros <;> kernel_rfl
@[go_sem] theorem uI : bW Tryz.prog 138 = some 1 ∧ ce Tryz.prog 138 = true ∧ bI Tryz.prog 138 = some false ∧ (Tryz.prog.underlying 138).isSome = true ∧ aV Tryz.prog 138 = false ∧ bn Tryz.prog 138 = false ∧ bo Tryz.prog 138 = none ∧ a6 Tryz.prog 138 = 16 ∧ bg Tryz.prog 138 = none ∧ bp Tryz.prog 138 = some [.nilIface] := by and_intros <;> kernel_rfl
@[go_sem] theorem uJ : bW Tryz.prog 141 = some 1 ∧ ce Tryz.prog 141 = true ∧ bI Tryz.prog 141 = some false ∧ (Tryz.prog.underlying 141).isSome = true ∧ aV Tryz.prog 141 = false ∧ bn Tryz.prog 141 = false ∧ bo Tryz.prog 141 = none ∧ a6 Tryz.prog 141 = 16 ∧ bg Tryz.prog 141 = none ∧ bp Tryz.prog 141 = some [.nilIface] := by and_intros <;> kernel_rfl
@[go_sem] theorem uK : bW Tryz.prog 148 = some 1 ∧ ce Tryz.prog 148 = true ∧ bI Tryz.prog 148 = some false ∧ (Tryz.prog.underlying 148).isSome = true ∧ aV Tryz.prog 148 = true ∧ bn Tryz.prog 148 = false ∧ bo Tryz.prog 148 = none ∧ a6 Tryz.prog 148 = 24 ∧ bg Tryz.prog 148 = some 160 ∧ bp Tryz.prog 148 = some [.slice none 0 0] := by and_intros <;> kernel_rfl
@[go_sem] theorem uL : bW Tryz.prog 150 = some 2 ∧ ce Tryz.prog 150 = true ∧ bI Tryz.prog 150 = some true ∧ (Tryz.prog.underlying 150).isSome = true ∧ aV Tryz.prog 150 = true ∧ bn Tryz.prog 150 = false ∧ bo Tryz.prog 150 = none ∧ a6 Tryz.prog 150 = 32 ∧ bg Tryz.prog 150 = none ∧ bp Tryz.prog 150 = some [.slice none 0 0,.int .i64 0] ∧ bS Tryz.prog 150 0 = some (0,148) ∧ bS Tryz.prog 150 1 = some (1,3) ∧ ct Tryz.prog 150 = some [(0,1),(1,1)] := by and_intros <;> kernel_rfl
@[go_sem] theorem uM : bW Tryz.prog 158 = some 1 ∧ ce Tryz.prog 158 = true ∧ bI Tryz.prog 158 = some false ∧ (Tryz.prog.underlying 158).isSome = true ∧ aV Tryz.prog 158 = true ∧ bn Tryz.prog 158 = false ∧ bo Tryz.prog 158 = none ∧ a6 Tryz.prog 158 = 8 ∧ bg Tryz.prog 158 = none ∧ bp Tryz.prog 158 = some [.map none] := by and_intros <;> kernel_rfl
@[go_sem] theorem uN : bW Tryz.prog 160 = some 2 ∧ ce Tryz.prog 160 = true ∧ bI Tryz.prog 160 = some true ∧ (Tryz.prog.underlying 160).isSome = true ∧ aV Tryz.prog 160 = true ∧ bn Tryz.prog 160 = false ∧ bo Tryz.prog 160 = none ∧ a6 Tryz.prog 160 = 16 ∧ bg Tryz.prog 160 = none ∧ bp Tryz.prog 160 = some [.int .i64 0,.int .i64 0] ∧ bS Tryz.prog 160 0 = some (0,3) ∧ bS Tryz.prog 160 1 = some (1,3) ∧ ct Tryz.prog 160 = some [(0,1),(1,1)] := by and_intros <;> kernel_rfl
@[go_sem] theorem uO : bW Tryz.prog 162 = some 1 ∧ ce Tryz.prog 162 = true ∧ bI Tryz.prog 162 = some false ∧ (Tryz.prog.underlying 162).isSome = true ∧ aV Tryz.prog 162 = true ∧ bn Tryz.prog 162 = false ∧ bo Tryz.prog 162 = some .u64 ∧ a6 Tryz.prog 162 = 8 ∧ bg Tryz.prog 162 = none ∧ bp Tryz.prog 162 = some [.int .u64 0] := by and_intros <;> kernel_rfl
@[go_sem] theorem uP : bW Tryz.prog 165 = some 1 ∧ ce Tryz.prog 165 = true ∧ bI Tryz.prog 165 = some false ∧ (Tryz.prog.underlying 165).isSome = true ∧ aV Tryz.prog 165 = true ∧ bn Tryz.prog 165 = false ∧ bo Tryz.prog 165 = none ∧ a6 Tryz.prog 165 = 8 ∧ bg Tryz.prog 165 = none ∧ bp Tryz.prog 165 = some [.nilFunc] := by and_intros <;> kernel_rfl
@[go_sem] theorem uQ : bW Tryz.prog 173 = some 1 ∧ ce Tryz.prog 173 = true ∧ bI Tryz.prog 173 = some false ∧ (Tryz.prog.underlying 173).isSome = true ∧ aV Tryz.prog 173 = true ∧ bn Tryz.prog 173 = false ∧ bo Tryz.prog 173 = some .i64 ∧ a6 Tryz.prog 173 = 8 ∧ bg Tryz.prog 173 = none ∧ bp Tryz.prog 173 = some [.int .i64 0] := by and_intros <;> kernel_rfl
@[go_sem] theorem uR : bW Tryz.prog 174 = some 1 ∧ ce Tryz.prog 174 = true ∧ bI Tryz.prog 174 = some false ∧ (Tryz.prog.underlying 174).isSome = true ∧ aV Tryz.prog 174 = true ∧ bn Tryz.prog 174 = false ∧ bo Tryz.prog 174 = none ∧ a6 Tryz.prog 174 = 0 ∧ bg Tryz.prog 174 = none := by and_intros <;> kernel_rfl
@[go_sem] theorem uS : bW Tryz.prog 178 = some 1 ∧ ce Tryz.prog 178 = true ∧ bI Tryz.prog 178 = some false ∧ (Tryz.prog.underlying 178).isSome = true ∧ aV Tryz.prog 178 = true ∧ bn Tryz.prog 178 = false ∧ bo Tryz.prog 178 = none ∧ a6 Tryz.prog 178 = 0 ∧ bg Tryz.prog 178 = none := by and_intros <;> kernel_rfl
@[go_sem] theorem uT : bW Tryz.prog 181 = some 1 ∧ ce Tryz.prog 181 = true ∧ bI Tryz.prog 181 = some false ∧ (Tryz.prog.underlying 181).isSome = true ∧ aV Tryz.prog 181 = true ∧ bn Tryz.prog 181 = false ∧ bo Tryz.prog 181 = some .u32 ∧ a6 Tryz.prog 181 = 4 ∧ bg Tryz.prog 181 = none ∧ bp Tryz.prog 181 = some [.int .u32 0] := by and_intros <;> kernel_rfl
@[go_sem] theorem uU : bW Tryz.prog 183 = some 1 ∧ ce Tryz.prog 183 = true ∧ bI Tryz.prog 183 = some false ∧ (Tryz.prog.underlying 183).isSome = true ∧ aV Tryz.prog 183 = true ∧ bn Tryz.prog 183 = false ∧ bo Tryz.prog 183 = some .u64 ∧ a6 Tryz.prog 183 = 8 ∧ bg Tryz.prog 183 = none ∧ bp Tryz.prog 183 = some [.int .u64 0] := by and_intros <;> kernel_rfl
@[go_sem] theorem uV : bW Tryz.prog 184 = some 1 ∧ ce Tryz.prog 184 = true ∧ bI Tryz.prog 184 = some false ∧ (Tryz.prog.underlying 184).isSome = true ∧ aV Tryz.prog 184 = true ∧ bn Tryz.prog 184 = false ∧ bo Tryz.prog 184 = some .u64 ∧ a6 Tryz.prog 184 = 8 ∧ bg Tryz.prog 184 = none ∧ bp Tryz.prog 184 = some [.int .u64 0] := by and_intros <;> kernel_rfl
@[go_sem] theorem uW : bW Tryz.prog 188 = some 1 ∧ ce Tryz.prog 188 = true ∧ bI Tryz.prog 188 = some false ∧ (Tryz.prog.underlying 188).isSome = true ∧ aV Tryz.prog 188 = true ∧ bn Tryz.prog 188 = false ∧ bo Tryz.prog 188 = none ∧ a6 Tryz.prog 188 = 8 ∧ bg Tryz.prog 188 = none ∧ bp Tryz.prog 188 = some [.pointer none] := by and_intros <;> kernel_rfl
@[go_sem] theorem uX : bW Tryz.prog 190 = some 1 ∧ ce Tryz.prog 190 = true ∧ bI Tryz.prog 190 = some false ∧ (Tryz.prog.underlying 190).isSome = true ∧ aV Tryz.prog 190 = true ∧ bn Tryz.prog 190 = false ∧ bo Tryz.prog 190 = none ∧ a6 Tryz.prog 190 = 8 ∧ bg Tryz.prog 190 = none ∧ bp Tryz.prog 190 = some [.pointer none] := by and_intros <;> kernel_rfl
@[go_sem] theorem uY : gM Tryz.prog 158 = some (.i64,3) := by kernel_rfl
@[go_sem] theorem uZ : ie Tryz.prog 3 = some (.int .i64 0) ∧ ba Tryz.prog 3 = true := by and_intros <;> kernel_rfl
@[go_sem] theorem u2 : ba Tryz.prog 4 = true := by kernel_rfl
@[go_sem] theorem u4 : ba Tryz.prog 5 = true := by kernel_rfl
@[go_sem] theorem u5 : ba Tryz.prog 6 = true := by kernel_rfl
@[go_sem] theorem u6 : ba Tryz.prog 7 = true := by kernel_rfl
@[go_sem] theorem u7 : ba Tryz.prog 8 = true := by kernel_rfl
@[go_sem] theorem u9 : ba Tryz.prog 9 = true := by kernel_rfl
@[go_sem] theorem vd : ba Tryz.prog 10 = true := by kernel_rfl
@[go_sem] theorem rq : ba Tryz.prog 11 = true := by kernel_rfl
@[go_sem] theorem rr : ba Tryz.prog 12 = true := by kernel_rfl
@[go_sem] theorem rt : ba Tryz.prog 13 = true := by kernel_rfl
@[go_sem] theorem ru : ba Tryz.prog 14 = true := by kernel_rfl
@[go_sem] theorem rv : ba Tryz.prog 15 = true := by kernel_rfl
@[go_sem] theorem rx : ba Tryz.prog 16 = true := by kernel_rfl
@[go_sem] theorem ry : ba Tryz.prog 17 = true := by kernel_rfl
@[go_sem] theorem rz : ba Tryz.prog 18 = true := by kernel_rfl
@[go_sem] theorem rA : ba Tryz.prog 19 = true := by kernel_rfl
@[go_sem] theorem rB : ba Tryz.prog 20 = true := by kernel_rfl
@[go_sem] theorem rC : ba Tryz.prog 21 = true := by kernel_rfl
@[go_sem] theorem rD : ba Tryz.prog 22 = true := by kernel_rfl
@[go_sem] theorem rE : ba Tryz.prog 23 = true := by kernel_rfl
@[go_sem] theorem rF : ba Tryz.prog 24 = true := by kernel_rfl
@[go_sem] theorem rG : ba Tryz.prog 25 = true := by kernel_rfl
@[go_sem] theorem rH : ba Tryz.prog 26 = true := by kernel_rfl
@[go_sem] theorem rI : ba Tryz.prog 27 = true := by kernel_rfl
@[go_sem] theorem rJ : ba Tryz.prog 28 = true := by kernel_rfl
@[go_sem] theorem rK : ba Tryz.prog 29 = true := by kernel_rfl
@[go_sem] theorem rL : ba Tryz.prog 30 = true := by kernel_rfl
@[go_sem] theorem rM : ba Tryz.prog 31 = true := by kernel_rfl
@[go_sem] theorem rN : ba Tryz.prog 32 = true := by kernel_rfl
@[go_sem] theorem rO : ba Tryz.prog 33 = true := by kernel_rfl
@[go_sem] theorem rP : ba Tryz.prog 34 = true := by kernel_rfl
@[go_sem] theorem rQ : ba Tryz.prog 35 = true := by kernel_rfl
@[go_sem] theorem rR : ba Tryz.prog 36 = true := by kernel_rfl
@[go_sem] theorem rS : ba Tryz.prog 37 = true := by kernel_rfl
@[go_sem] theorem rT : ba Tryz.prog 38 = true := by kernel_rfl
@[go_sem] theorem rU : ba Tryz.prog 39 = true := by kernel_rfl
@[go_sem] theorem rV : ba Tryz.prog 40 = true := by kernel_rfl
@[go_sem] theorem rW : ba Tryz.prog 41 = true := by kernel_rfl
@[go_sem] theorem rX : ba Tryz.prog 42 = true := by kernel_rfl
@[go_sem] theorem rY : ba Tryz.prog 44 = true := by kernel_rfl
@[go_sem] theorem rZ : ba Tryz.prog 45 = true := by kernel_rfl
@[go_sem] theorem r9 : ba Tryz.prog 46 = true := by kernel_rfl
@[go_sem] theorem sa : ba Tryz.prog 47 = true := by kernel_rfl
@[go_sem] theorem sb : ba Tryz.prog 48 = false := by kernel_rfl
@[go_sem] theorem sc : ba Tryz.prog 49 = false := by kernel_rfl
@[go_sem] theorem sd : ba Tryz.prog 50 = false := by kernel_rfl
@[go_sem] theorem se : ba Tryz.prog 51 = true := by kernel_rfl
@[go_sem] theorem sf : ba Tryz.prog 52 = false := by kernel_rfl
@[go_sem] theorem sg : ba Tryz.prog 53 = true := by kernel_rfl
@[go_sem] theorem sh : ba Tryz.prog 54 = true := by kernel_rfl
@[go_sem] theorem si : ba Tryz.prog 55 = true := by kernel_rfl
@[go_sem] theorem sj : ba Tryz.prog 56 = true := by kernel_rfl
@[go_sem] theorem sk : ba Tryz.prog 57 = true := by kernel_rfl
@[go_sem] theorem sm : ba Tryz.prog 58 = true := by kernel_rfl
@[go_sem] theorem sn : ba Tryz.prog 59 = true := by kernel_rfl
@[go_sem] theorem so : ba Tryz.prog 60 = true := by kernel_rfl
@[go_sem] theorem sq : ba Tryz.prog 61 = true := by kernel_rfl
@[go_sem] theorem sr : ba Tryz.prog 62 = true := by kernel_rfl
@[go_sem] theorem ss : ba Tryz.prog 63 = true := by kernel_rfl
@[go_sem] theorem su : ba Tryz.prog 64 = true := by kernel_rfl
@[go_sem] theorem sv : ba Tryz.prog 65 = true := by kernel_rfl
@[go_sem] theorem sw : ba Tryz.prog 66 = true := by kernel_rfl
@[go_sem] theorem sx : ba Tryz.prog 69 = true := by kernel_rfl
@[go_sem] theorem sy : ba Tryz.prog 70 = true := by kernel_rfl
@[go_sem] theorem sA : ba Tryz.prog 71 = true := by kernel_rfl
@[go_sem] theorem sB : ba Tryz.prog 72 = true := by kernel_rfl
@[go_sem] theorem sC : ba Tryz.prog 73 = true := by kernel_rfl
@[go_sem] theorem sD : ba Tryz.prog 74 = false := by kernel_rfl
@[go_sem] theorem sE : ba Tryz.prog 75 = false := by kernel_rfl
@[go_sem] theorem sF : ba Tryz.prog 76 = true := by kernel_rfl
@[go_sem] theorem sG : ba Tryz.prog 77 = true := by kernel_rfl
@[go_sem] theorem sH : ba Tryz.prog 78 = true := by kernel_rfl
@[go_sem] theorem sI : ba Tryz.prog 79 = true := by kernel_rfl
@[go_sem] theorem sJ : ba Tryz.prog 80 = true := by kernel_rfl
@[go_sem] theorem sL : ba Tryz.prog 82 = true := by kernel_rfl
@[go_sem] theorem sM : ba Tryz.prog 86 = true := by kernel_rfl
@[go_sem] theorem sN : ba Tryz.prog 87 = true := by kernel_rfl
@[go_sem] theorem sO : ba Tryz.prog 88 = true := by kernel_rfl
@[go_sem] theorem sP : ba Tryz.prog 89 = true := by kernel_rfl
@[go_sem] theorem sQ : ba Tryz.prog 94 = true := by kernel_rfl
@[go_sem] theorem sR : ba Tryz.prog 95 = true := by kernel_rfl
@[go_sem] theorem sS : ba Tryz.prog 96 = true := by kernel_rfl
@[go_sem] theorem sT : ba Tryz.prog 97 = true := by kernel_rfl
@[go_sem] theorem sU : ba Tryz.prog 99 = true := by kernel_rfl
@[go_sem] theorem sV : ba Tryz.prog 101 = true := by kernel_rfl
@[go_sem] theorem sW : ba Tryz.prog 102 = true := by kernel_rfl
@[go_sem] theorem sX : ba Tryz.prog 103 = true := by kernel_rfl
@[go_sem] theorem sY : ba Tryz.prog 104 = true := by kernel_rfl
@[go_sem] theorem sZ : ba Tryz.prog 105 = true := by kernel_rfl
@[go_sem] theorem s4 : ba Tryz.prog 106 = true := by kernel_rfl
@[go_sem] theorem s5 : ba Tryz.prog 107 = true := by kernel_rfl
@[go_sem] theorem s6 : ba Tryz.prog 108 = true := by kernel_rfl
@[go_sem] theorem s7 : ba Tryz.prog 109 = true := by kernel_rfl
@[go_sem] theorem s8 : ba Tryz.prog 110 = true := by kernel_rfl
@[go_sem] theorem s9 : ba Tryz.prog 111 = true := by kernel_rfl
@[go_sem] theorem ta : ba Tryz.prog 112 = true := by kernel_rfl
@[go_sem] theorem tb : ba Tryz.prog 113 = true := by kernel_rfl
@[go_sem] theorem tc : ba Tryz.prog 114 = true := by kernel_rfl
@[go_sem] theorem td : ba Tryz.prog 115 = true := by kernel_rfl
@[go_sem] theorem te : ba Tryz.prog 116 = true := by kernel_rfl
@[go_sem] theorem tf : ba Tryz.prog 117 = true := by kernel_rfl
@[go_sem] theorem tg : ba Tryz.prog 118 = true := by kernel_rfl
@[go_sem] theorem th : ba Tryz.prog 119 = true := by kernel_rfl
@[go_sem] theorem ti : ba Tryz.prog 120 = true := by kernel_rfl
@[go_sem] theorem tj : ba Tryz.prog 121 = true := by kernel_rfl
@[go_sem] theorem tl : ba Tryz.prog 122 = true := by kernel_rfl
@[go_sem] theorem tm : ba Tryz.prog 123 = true := by kernel_rfl
@[go_sem] theorem tn : ba Tryz.prog 124 = true := by kernel_rfl
@[go_sem] theorem tp : ba Tryz.prog 139 = false := by kernel_rfl
@[go_sem] theorem tq : ba Tryz.prog 149 = false := by kernel_rfl
@[go_sem] theorem tr : ba Tryz.prog 150 = false := by kernel_rfl
@[go_sem] theorem tt : ba Tryz.prog 151 = false := by kernel_rfl
@[go_sem] theorem tu : ba Tryz.prog 152 = false := by kernel_rfl
end Go.Proofs.YtiiaokjgbjhfhaaGreatDoor

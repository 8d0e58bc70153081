/- What K asks of the types and functions of this seat, as closed facts. Printed by program. -/
import Derived.Test.YtkjnkkmokojnpaaGreatDoorZ2
import Derived.Test.YtkjnkkmokojnpaaGreatDoorProg
namespace Go.Proofs.YtkjnkkmokojnpaaGreatDoor
set_option linter.unusedSimpArgs false
@[go_sem] theorem kk2 : cO Tryz.prog 0 = some 1∧de Tryz.prog 0 = true∧cj Tryz.prog 0 = some false∧(Tryz.prog.underlying 0).isSome = true∧aQ Tryz.prog 0 = true∧bB Tryz.prog 0 = false∧bC Tryz.prog 0 = none∧aV Tryz.prog 0 = 0∧bp Tryz.prog 0 = none:=by and_intros <;> kernel_rfl
@[go_sem] theorem kk3 : cO Tryz.prog 1 = some 1∧de Tryz.prog 1 = true∧cj Tryz.prog 1 = some false∧(Tryz.prog.underlying 1).isSome = true∧aQ Tryz.prog 1 = true∧bB Tryz.prog 1 = false∧bC Tryz.prog 1 = none∧aV Tryz.prog 1 = 8∧bp Tryz.prog 1 = none∧bG Tryz.prog 1 = some [.nilFunc]:=by and_intros <;> kernel_rfl
@[go_sem] theorem kk4 : cO Tryz.prog 2 = some 1∧de Tryz.prog 2 = true∧cj Tryz.prog 2 = some false∧(Tryz.prog.underlying 2).isSome = true∧aQ Tryz.prog 2 = true∧bB Tryz.prog 2 = false∧bC Tryz.prog 2 = some .i64∧aV Tryz.prog 2 = 8∧bp Tryz.prog 2 = none∧bG Tryz.prog 2 = some [.int .i64 0]:=by and_intros <;> kernel_rfl
@[go_sem] theorem kk5 : cO Tryz.prog 3 = some 1∧de Tryz.prog 3 = true∧cj Tryz.prog 3 = some false∧(Tryz.prog.underlying 3).isSome = true∧aQ Tryz.prog 3 = true∧bB Tryz.prog 3 = false∧bC Tryz.prog 3 = some .i64∧aV Tryz.prog 3 = 8∧bp Tryz.prog 3 = none∧bG Tryz.prog 3 = some [.int .i64 0]:=by and_intros <;> kernel_rfl
@[go_sem] theorem kk6 : cO Tryz.prog 4 = some 1∧de Tryz.prog 4 = true∧cj Tryz.prog 4 = some false∧(Tryz.prog.underlying 4).isSome = true∧aQ Tryz.prog 4 = true∧bB Tryz.prog 4 = false∧bC Tryz.prog 4 = none∧aV Tryz.prog 4 = 1∧bp Tryz.prog 4 = none∧bG Tryz.prog 4 = some [.bool false]:=by and_intros <;> kernel_rfl
@[go_sem] theorem kk7 : cO Tryz.prog 5 = some 1∧de Tryz.prog 5 = true∧cj Tryz.prog 5 = some false∧(Tryz.prog.underlying 5).isSome = true∧aQ Tryz.prog 5 = true∧bB Tryz.prog 5 = false∧bC Tryz.prog 5 = some .u8∧aV Tryz.prog 5 = 1∧bp Tryz.prog 5 = none∧bG Tryz.prog 5 = some [.int .u8 0]:=by and_intros <;> kernel_rfl
@[go_sem] theorem kk8 : cO Tryz.prog 6 = some 1∧de Tryz.prog 6 = true∧cj Tryz.prog 6 = some false∧(Tryz.prog.underlying 6).isSome = true∧aQ Tryz.prog 6 = true∧bB Tryz.prog 6 = false∧bC Tryz.prog 6 = some .u8∧aV Tryz.prog 6 = 1∧bp Tryz.prog 6 = none∧bG Tryz.prog 6 = some [.int .u8 0]:=by and_intros <;> kernel_rfl
@[go_sem] theorem kk9 : cO Tryz.prog 7 = some 4∧de Tryz.prog 7 = true∧cj Tryz.prog 7 = some true∧(Tryz.prog.underlying 7).isSome = true∧aQ Tryz.prog 7 = true∧bB Tryz.prog 7 = false∧bC Tryz.prog 7 = none∧aV Tryz.prog 7 = 24∧bp Tryz.prog 7 = none∧bG Tryz.prog 7 = some [.int .i64 0,.int .i64 0,.bool false,.int .u8 0]∧bM Tryz.prog 7 0 = some (0,2)∧bM Tryz.prog 7 1 = some (1,3)∧bM Tryz.prog 7 2 = some (2,4)∧bM Tryz.prog 7 3 = some (3,6)∧dW Tryz.prog 7 = some [(0,1),(1,1),(2,1),(3,1)]:=by and_intros <;> kernel_rfl
@[go_sem] theorem Ji : cO Tryz.prog 8 = some 4∧de Tryz.prog 8 = true∧cj Tryz.prog 8 = some true∧(Tryz.prog.underlying 8).isSome = true∧aQ Tryz.prog 8 = true∧bB Tryz.prog 8 = false∧bC Tryz.prog 8 = none∧aV Tryz.prog 8 = 24∧bp Tryz.prog 8 = none∧bG Tryz.prog 8 = some [.int .i64 0,.int .i64 0,.bool false,.int .u8 0]∧bM Tryz.prog 8 0 = some (0,2)∧bM Tryz.prog 8 1 = some (1,3)∧bM Tryz.prog 8 2 = some (2,4)∧bM Tryz.prog 8 3 = some (3,6)∧dW Tryz.prog 8 = some [(0,1),(1,1),(2,1),(3,1)]:=by and_intros <;> kernel_rfl
@[go_sem] theorem Jj : cO Tryz.prog 9 = some 1∧de Tryz.prog 9 = true∧cj Tryz.prog 9 = some false∧(Tryz.prog.underlying 9).isSome = true∧aQ Tryz.prog 9 = true∧bB Tryz.prog 9 = true∧bC Tryz.prog 9 = none∧aV Tryz.prog 9 = 16∧bp Tryz.prog 9 = none∧bG Tryz.prog 9 = some [.string ⟨#[]⟩]:=by and_intros <;> kernel_rfl
@[go_sem] theorem Jk : cO Tryz.prog 10 = some 1∧de Tryz.prog 10 = true∧cj Tryz.prog 10 = some false∧(Tryz.prog.underlying 10).isSome = true∧aQ Tryz.prog 10 = true∧bB Tryz.prog 10 = true∧bC Tryz.prog 10 = none∧aV Tryz.prog 10 = 16∧bp Tryz.prog 10 = none∧bG Tryz.prog 10 = some [.string ⟨#[]⟩]:=by and_intros <;> kernel_rfl
@[go_sem] theorem Jl : cO Tryz.prog 11 = some 1∧de Tryz.prog 11 = true∧cj Tryz.prog 11 = some false∧(Tryz.prog.underlying 11).isSome = true∧aQ Tryz.prog 11 = true∧bB Tryz.prog 11 = true∧bC Tryz.prog 11 = none∧aV Tryz.prog 11 = 16∧bp Tryz.prog 11 = none∧bG Tryz.prog 11 = some [.string ⟨#[]⟩]:=by and_intros <;> kernel_rfl
@[go_sem] theorem Jm : cO Tryz.prog 12 = some 1∧de Tryz.prog 12 = true∧cj Tryz.prog 12 = some false∧(Tryz.prog.underlying 12).isSome = true∧aQ Tryz.prog 12 = true∧bB Tryz.prog 12 = false∧bC Tryz.prog 12 = some .u64∧aV Tryz.prog 12 = 8∧bp Tryz.prog 12 = none∧bG Tryz.prog 12 = some [.int .u64 0]:=by and_intros <;> kernel_rfl
@[go_sem] theorem Jn : cO Tryz.prog 13 = some 2∧de Tryz.prog 13 = true∧cj Tryz.prog 13 = some true∧(Tryz.prog.underlying 13).isSome = true∧aQ Tryz.prog 13 = true∧bB Tryz.prog 13 = false∧bC Tryz.prog 13 = none∧aV Tryz.prog 13 = 24∧bp Tryz.prog 13 = none∧bG Tryz.prog 13 = some [.string ⟨#[]⟩,.int .u64 0]∧bM Tryz.prog 13 0 = some (0,9)∧bM Tryz.prog 13 1 = some (1,12)∧dW Tryz.prog 13 = some [(0,1),(1,1)]:=by and_intros <;> kernel_rfl
@[go_sem] theorem Jo : cO Tryz.prog 14 = some 2∧de Tryz.prog 14 = true∧cj Tryz.prog 14 = some true∧(Tryz.prog.underlying 14).isSome = true∧aQ Tryz.prog 14 = true∧bB Tryz.prog 14 = false∧bC Tryz.prog 14 = none∧aV Tryz.prog 14 = 24∧bp Tryz.prog 14 = none∧bG Tryz.prog 14 = some [.string ⟨#[]⟩,.int .u64 0]∧bM Tryz.prog 14 0 = some (0,9)∧bM Tryz.prog 14 1 = some (1,12)∧dW Tryz.prog 14 = some [(0,1),(1,1)]:=by and_intros <;> kernel_rfl
@[go_sem] theorem Jp : cO Tryz.prog 15 = some 1∧de Tryz.prog 15 = true∧cj Tryz.prog 15 = some false∧(Tryz.prog.underlying 15).isSome = true∧aQ Tryz.prog 15 = true∧bB Tryz.prog 15 = false∧bC Tryz.prog 15 = none∧aV Tryz.prog 15 = 8∧bp Tryz.prog 15 = none∧bG Tryz.prog 15 = some [.pointer none]:=by and_intros <;> kernel_rfl
@[go_sem] theorem Jq : cO Tryz.prog 16 = some 1∧de Tryz.prog 16 = true∧cj Tryz.prog 16 = some false∧(Tryz.prog.underlying 16).isSome = true∧aQ Tryz.prog 16 = true∧bB Tryz.prog 16 = false∧bC Tryz.prog 16 = none∧aV Tryz.prog 16 = 8∧bp Tryz.prog 16 = none∧bG Tryz.prog 16 = some [.pointer none]:=by and_intros <;> kernel_rfl
@[go_sem] theorem Jr : cO Tryz.prog 17 = some 1∧de Tryz.prog 17 = true∧cj Tryz.prog 17 = some false∧(Tryz.prog.underlying 17).isSome = true∧aQ Tryz.prog 17 = true∧bB Tryz.prog 17 = false∧bC Tryz.prog 17 = none∧aV Tryz.prog 17 = 8∧bp Tryz.prog 17 = none∧bG Tryz.prog 17 = some [.pointer none]:=by and_intros <;> kernel_rfl
@[go_sem] theorem Js : cO Tryz.prog 18 = some 1∧de Tryz.prog 18 = true∧cj Tryz.prog 18 = some true∧(Tryz.prog.underlying 18).isSome = true∧aQ Tryz.prog 18 = true∧bB Tryz.prog 18 = false∧bC Tryz.prog 18 = none∧aV Tryz.prog 18 = 8∧bp Tryz.prog 18 = none∧bG Tryz.prog 18 = some [.pointer none]∧bM Tryz.prog 18 0 = some (0,17)∧dW Tryz.prog 18 = some [(0,1)]:=by and_intros <;> kernel_rfl
@[go_sem] theorem Jt : cO Tryz.prog 19 = some 1∧de Tryz.prog 19 = true∧cj Tryz.prog 19 = some true∧(Tryz.prog.underlying 19).isSome = true∧aQ Tryz.prog 19 = true∧bB Tryz.prog 19 = false∧bC Tryz.prog 19 = none∧aV Tryz.prog 19 = 8∧bp Tryz.prog 19 = none∧bG Tryz.prog 19 = some [.pointer none]∧bM Tryz.prog 19 0 = some (0,17)∧dW Tryz.prog 19 = some [(0,1)]:=by and_intros <;> kernel_rfl
@[go_sem] theorem Ju : cO Tryz.prog 20 = some 1∧de Tryz.prog 20 = true∧cj Tryz.prog 20 = some false∧(Tryz.prog.underlying 20).isSome = true∧aQ Tryz.prog 20 = false∧bB Tryz.prog 20 = false∧bC Tryz.prog 20 = none∧aV Tryz.prog 20 = 16∧bp Tryz.prog 20 = none∧bG Tryz.prog 20 = some [.nilIface]:=by and_intros <;> kernel_rfl
@[go_sem] theorem Jv : cO Tryz.prog 21 = some 1∧de Tryz.prog 21 = true∧cj Tryz.prog 21 = some false∧(Tryz.prog.underlying 21).isSome = true∧aQ Tryz.prog 21 = true∧bB Tryz.prog 21 = false∧bC Tryz.prog 21 = some .i32∧aV Tryz.prog 21 = 4∧bp Tryz.prog 21 = none∧bG Tryz.prog 21 = some [.int .i32 0]:=by and_intros <;> kernel_rfl
@[go_sem] theorem Jw : cO Tryz.prog 22 = some 1∧de Tryz.prog 22 = true∧cj Tryz.prog 22 = some false∧(Tryz.prog.underlying 22).isSome = true∧aQ Tryz.prog 22 = true∧bB Tryz.prog 22 = false∧bC Tryz.prog 22 = none∧aV Tryz.prog 22 = 24∧bp Tryz.prog 22 = some 59∧bG Tryz.prog 22 = some [.slice none 0 0]:=by and_intros <;> kernel_rfl
@[go_sem] theorem Jx : cO Tryz.prog 23 = some 1∧de Tryz.prog 23 = true∧cj Tryz.prog 23 = some true∧(Tryz.prog.underlying 23).isSome = true∧aQ Tryz.prog 23 = true∧bB Tryz.prog 23 = false∧bC Tryz.prog 23 = none∧aV Tryz.prog 23 = 24∧bp Tryz.prog 23 = none∧bG Tryz.prog 23 = some [.slice none 0 0]∧bM Tryz.prog 23 0 = some (0,22)∧dW Tryz.prog 23 = some [(0,1)]:=by and_intros <;> kernel_rfl
@[go_sem] theorem Jy : cO Tryz.prog 24 = some 1∧de Tryz.prog 24 = true∧cj Tryz.prog 24 = some true∧(Tryz.prog.underlying 24).isSome = true∧aQ Tryz.prog 24 = true∧bB Tryz.prog 24 = false∧bC Tryz.prog 24 = none∧aV Tryz.prog 24 = 24∧bp Tryz.prog 24 = none∧bG Tryz.prog 24 = some [.slice none 0 0]∧bM Tryz.prog 24 0 = some (0,22)∧dW Tryz.prog 24 = some [(0,1)]:=by and_intros <;> kernel_rfl
@[go_sem] theorem Jz : cO Tryz.prog 25 = some 1∧de Tryz.prog 25 = true∧cj Tryz.prog 25 = some false∧(Tryz.prog.underlying 25).isSome = true∧aQ Tryz.prog 25 = true∧bB Tryz.prog 25 = false∧bC Tryz.prog 25 = none∧aV Tryz.prog 25 = 8∧bp Tryz.prog 25 = none∧bG Tryz.prog 25 = some [.nilFunc]:=by and_intros <;> kernel_rfl
@[go_sem] theorem JA : cO Tryz.prog 26 = some 1∧de Tryz.prog 26 = true∧cj Tryz.prog 26 = some false∧(Tryz.prog.underlying 26).isSome = true∧aQ Tryz.prog 26 = true∧bB Tryz.prog 26 = false∧bC Tryz.prog 26 = none∧aV Tryz.prog 26 = 8∧bp Tryz.prog 26 = none∧bG Tryz.prog 26 = some [.nilFunc]:=by and_intros <;> kernel_rfl
@[go_sem] theorem JB : cO Tryz.prog 27 = some 1∧de Tryz.prog 27 = true∧cj Tryz.prog 27 = some false∧(Tryz.prog.underlying 27).isSome = true∧aQ Tryz.prog 27 = false∧bB Tryz.prog 27 = false∧bC Tryz.prog 27 = none∧aV Tryz.prog 27 = 16∧bp Tryz.prog 27 = none∧bG Tryz.prog 27 = some [.nilIface]:=by and_intros <;> kernel_rfl
@[go_sem] theorem JC : cO Tryz.prog 28 = some 1∧de Tryz.prog 28 = true∧cj Tryz.prog 28 = some false∧(Tryz.prog.underlying 28).isSome = true∧aQ Tryz.prog 28 = false∧bB Tryz.prog 28 = false∧bC Tryz.prog 28 = none∧aV Tryz.prog 28 = 16∧bp Tryz.prog 28 = none∧bG Tryz.prog 28 = some [.nilIface]:=by and_intros <;> kernel_rfl
@[go_sem] theorem JD : cO Tryz.prog 29 = some 1∧de Tryz.prog 29 = true∧cj Tryz.prog 29 = some false∧(Tryz.prog.underlying 29).isSome = true∧aQ Tryz.prog 29 = true∧bB Tryz.prog 29 = false∧bC Tryz.prog 29 = none∧aV Tryz.prog 29 = 8∧bp Tryz.prog 29 = none∧bG Tryz.prog 29 = some [.nilFunc]:=by and_intros <;> kernel_rfl
@[go_sem] theorem JE : cO Tryz.prog 30 = some 1∧de Tryz.prog 30 = true∧cj Tryz.prog 30 = some false∧(Tryz.prog.underlying 30).isSome = true∧aQ Tryz.prog 30 = true∧bB Tryz.prog 30 = false∧bC Tryz.prog 30 = none∧aV Tryz.prog 30 = 0∧bp Tryz.prog 30 = none:=by and_intros <;> kernel_rfl
@[go_sem] theorem JF : cO Tryz.prog 31 = some 1∧de Tryz.prog 31 = true∧cj Tryz.prog 31 = some false∧(Tryz.prog.underlying 31).isSome = true∧aQ Tryz.prog 31 = true∧bB Tryz.prog 31 = false∧bC Tryz.prog 31 = none∧aV Tryz.prog 31 = 8∧bp Tryz.prog 31 = none∧bG Tryz.prog 31 = some [.nilFunc]:=by and_intros <;> kernel_rfl
@[go_sem] theorem JG : cO Tryz.prog 32 = some 1∧de Tryz.prog 32 = true∧cj Tryz.prog 32 = some false∧(Tryz.prog.underlying 32).isSome = true∧aQ Tryz.prog 32 = true∧bB Tryz.prog 32 = false∧bC Tryz.prog 32 = none∧aV Tryz.prog 32 = 8∧bp Tryz.prog 32 = none∧bG Tryz.prog 32 = some [.nilFunc]:=by and_intros <;> kernel_rfl
@[go_sem] theorem JH : cO Tryz.prog 33 = some 1∧de Tryz.prog 33 = true∧cj Tryz.prog 33 = some false∧(Tryz.prog.underlying 33).isSome = true∧aQ Tryz.prog 33 = true∧bB Tryz.prog 33 = false∧bC Tryz.prog 33 = none∧aV Tryz.prog 33 = 0∧bp Tryz.prog 33 = none:=by and_intros <;> kernel_rfl
@[go_sem] theorem JI : cO Tryz.prog 34 = some 1∧de Tryz.prog 34 = true∧cj Tryz.prog 34 = some false∧(Tryz.prog.underlying 34).isSome = true∧aQ Tryz.prog 34 = true∧bB Tryz.prog 34 = false∧bC Tryz.prog 34 = none∧aV Tryz.prog 34 = 8∧bp Tryz.prog 34 = none∧bG Tryz.prog 34 = some [.nilFunc]:=by and_intros <;> kernel_rfl
@[go_sem] theorem JJ : cO Tryz.prog 35 = some 1∧de Tryz.prog 35 = true∧cj Tryz.prog 35 = some false∧(Tryz.prog.underlying 35).isSome = true∧aQ Tryz.prog 35 = true∧bB Tryz.prog 35 = false∧bC Tryz.prog 35 = none∧aV Tryz.prog 35 = 0∧bp Tryz.prog 35 = none:=by and_intros <;> kernel_rfl
@[go_sem] theorem JK : cO Tryz.prog 36 = some 1∧de Tryz.prog 36 = true∧cj Tryz.prog 36 = some false∧(Tryz.prog.underlying 36).isSome = true∧aQ Tryz.prog 36 = true∧bB Tryz.prog 36 = false∧bC Tryz.prog 36 = none∧aV Tryz.prog 36 = 8∧bp Tryz.prog 36 = none∧bG Tryz.prog 36 = some [.nilFunc]:=by and_intros <;> kernel_rfl
@[go_sem] theorem JL : cO Tryz.prog 37 = some 1∧de Tryz.prog 37 = true∧cj Tryz.prog 37 = some false∧(Tryz.prog.underlying 37).isSome = true∧aQ Tryz.prog 37 = true∧bB Tryz.prog 37 = false∧bC Tryz.prog 37 = none∧aV Tryz.prog 37 = 8∧bp Tryz.prog 37 = none∧bG Tryz.prog 37 = some [.nilFunc]:=by and_intros <;> kernel_rfl
@[go_sem] theorem JM : cO Tryz.prog 38 = some 1∧de Tryz.prog 38 = true∧cj Tryz.prog 38 = some false∧(Tryz.prog.underlying 38).isSome = true∧aQ Tryz.prog 38 = true∧bB Tryz.prog 38 = false∧bC Tryz.prog 38 = none∧aV Tryz.prog 38 = 8∧bp Tryz.prog 38 = none∧bG Tryz.prog 38 = some [.nilFunc]:=by and_intros <;> kernel_rfl
@[go_sem] theorem JN : cO Tryz.prog 39 = some 1∧de Tryz.prog 39 = true∧cj Tryz.prog 39 = some false∧(Tryz.prog.underlying 39).isSome = true∧aQ Tryz.prog 39 = true∧bB Tryz.prog 39 = false∧bC Tryz.prog 39 = none∧aV Tryz.prog 39 = 0∧bp Tryz.prog 39 = none:=by and_intros <;> kernel_rfl
@[go_sem] theorem JO : cO Tryz.prog 40 = some 1∧de Tryz.prog 40 = true∧cj Tryz.prog 40 = some false∧(Tryz.prog.underlying 40).isSome = true∧aQ Tryz.prog 40 = true∧bB Tryz.prog 40 = false∧bC Tryz.prog 40 = none∧aV Tryz.prog 40 = 8∧bp Tryz.prog 40 = none∧bG Tryz.prog 40 = some [.nilFunc]:=by and_intros <;> kernel_rfl
@[go_sem] theorem JP : cO Tryz.prog 41 = some 1∧de Tryz.prog 41 = true∧cj Tryz.prog 41 = some false∧(Tryz.prog.underlying 41).isSome = true∧aQ Tryz.prog 41 = true∧bB Tryz.prog 41 = false∧bC Tryz.prog 41 = some .i64∧aV Tryz.prog 41 = 8∧bp Tryz.prog 41 = none∧bG Tryz.prog 41 = some [.int .i64 0]:=by and_intros <;> kernel_rfl
@[go_sem] theorem JQ : cO Tryz.prog 42 = some 1∧de Tryz.prog 42 = true∧cj Tryz.prog 42 = some false∧(Tryz.prog.underlying 42).isSome = true∧aQ Tryz.prog 42 = true∧bB Tryz.prog 42 = false∧bC Tryz.prog 42 = none∧aV Tryz.prog 42 = 0∧bp Tryz.prog 42 = none:=by and_intros <;> kernel_rfl
@[go_sem] theorem JR : cO Tryz.prog 43 = some 1∧de Tryz.prog 43 = true∧cj Tryz.prog 43 = some false∧(Tryz.prog.underlying 43).isSome = true∧aQ Tryz.prog 43 = true∧bB Tryz.prog 43 = false∧bC Tryz.prog 43 = none∧aV Tryz.prog 43 = 8∧bp Tryz.prog 43 = none∧bG Tryz.prog 43 = some [.nilFunc]:=by and_intros <;> kernel_rfl
@[go_sem] theorem JS : cO Tryz.prog 44 = some 1∧de Tryz.prog 44 = true∧cj Tryz.prog 44 = some false∧(Tryz.prog.underlying 44).isSome = true∧aQ Tryz.prog 44 = true∧bB Tryz.prog 44 = false∧bC Tryz.prog 44 = none∧aV Tryz.prog 44 = 8∧bp Tryz.prog 44 = none∧bG Tryz.prog 44 = some [.nilFunc]:=by and_intros <;> kernel_rfl
@[go_sem] theorem JT : cO Tryz.prog 45 = some 1∧de Tryz.prog 45 = true∧cj Tryz.prog 45 = some false∧(Tryz.prog.underlying 45).isSome = true∧aQ Tryz.prog 45 = true∧bB Tryz.prog 45 = false∧bC Tryz.prog 45 = none∧aV Tryz.prog 45 = 24∧bp Tryz.prog 45 = some 47∧bG Tryz.prog 45 = some [.slice none 0 0]:=by and_intros <;> kernel_rfl
@[go_sem] theorem JU : cO Tryz.prog 46 = some 4∧de Tryz.prog 46 = true∧cj Tryz.prog 46 = some true∧(Tryz.prog.underlying 46).isSome = true∧aQ Tryz.prog 46 = true∧bB Tryz.prog 46 = false∧bC Tryz.prog 46 = none∧aV Tryz.prog 46 = 56∧bp Tryz.prog 46 = none∧bG Tryz.prog 46 = some [.int .i64 0,.int .i64 0,.string ⟨#[]⟩,.slice none 0 0]∧bM Tryz.prog 46 0 = some (0,3)∧bM Tryz.prog 46 1 = some (1,3)∧bM Tryz.prog 46 2 = some (2,9)∧bM Tryz.prog 46 3 = some (3,45)∧dW Tryz.prog 46 = some [(0,1),(1,1),(2,1),(3,1)]:=by and_intros <;> kernel_rfl
@[go_sem] theorem JV : cO Tryz.prog 47 = some 4∧de Tryz.prog 47 = true∧cj Tryz.prog 47 = some true∧(Tryz.prog.underlying 47).isSome = true∧aQ Tryz.prog 47 = true∧bB Tryz.prog 47 = false∧bC Tryz.prog 47 = none∧aV Tryz.prog 47 = 56∧bp Tryz.prog 47 = none∧bG Tryz.prog 47 = some [.int .i64 0,.int .i64 0,.string ⟨#[]⟩,.slice none 0 0]∧bM Tryz.prog 47 0 = some (0,3)∧bM Tryz.prog 47 1 = some (1,3)∧bM Tryz.prog 47 2 = some (2,9)∧bM Tryz.prog 47 3 = some (3,45)∧dW Tryz.prog 47 = some [(0,1),(1,1),(2,1),(3,1)]:=by and_intros <;> kernel_rfl
@[go_sem] theorem JW : cO Tryz.prog 48 = some 1∧de Tryz.prog 48 = true∧cj Tryz.prog 48 = some false∧(Tryz.prog.underlying 48).isSome = true∧aQ Tryz.prog 48 = true∧bB Tryz.prog 48 = false∧bC Tryz.prog 48 = none∧aV Tryz.prog 48 = 24∧bp Tryz.prog 48 = some 9∧bG Tryz.prog 48 = some [.slice none 0 0]:=by and_intros <;> kernel_rfl
@[go_sem] theorem JX : cO Tryz.prog 49 = some 1∧de Tryz.prog 49 = true∧cj Tryz.prog 49 = some false∧(Tryz.prog.underlying 49).isSome = true∧aQ Tryz.prog 49 = true∧bB Tryz.prog 49 = false∧bC Tryz.prog 49 = none∧aV Tryz.prog 49 = 24∧bp Tryz.prog 49 = some 51∧bG Tryz.prog 49 = some [.slice none 0 0]:=by and_intros <;> kernel_rfl
@[go_sem] theorem JY : cO Tryz.prog 50 = some 3∧de Tryz.prog 50 = true∧cj Tryz.prog 50 = some true∧(Tryz.prog.underlying 50).isSome = true∧aQ Tryz.prog 50 = true∧bB Tryz.prog 50 = false∧bC Tryz.prog 50 = none∧aV Tryz.prog 50 = 56∧bp Tryz.prog 50 = none∧bG Tryz.prog 50 = some [.int .i64 0,.slice none 0 0,.slice none 0 0]∧bM Tryz.prog 50 0 = some (0,3)∧bM Tryz.prog 50 1 = some (1,45)∧bM Tryz.prog 50 2 = some (2,49)∧dW Tryz.prog 50 = some [(0,1),(1,1),(2,1)]:=by and_intros <;> kernel_rfl
@[go_sem] theorem JZ : cO Tryz.prog 51 = some 3∧de Tryz.prog 51 = true∧cj Tryz.prog 51 = some true∧(Tryz.prog.underlying 51).isSome = true∧aQ Tryz.prog 51 = true∧bB Tryz.prog 51 = false∧bC Tryz.prog 51 = none∧aV Tryz.prog 51 = 56∧bp Tryz.prog 51 = none∧bG Tryz.prog 51 = some [.int .i64 0,.slice none 0 0,.slice none 0 0]∧bM Tryz.prog 51 0 = some (0,3)∧bM Tryz.prog 51 1 = some (1,45)∧bM Tryz.prog 51 2 = some (2,49)∧dW Tryz.prog 51 = some [(0,1),(1,1),(2,1)]:=by and_intros <;> kernel_rfl
@[go_sem] theorem J0 : cO Tryz.prog 52 = some 1∧de Tryz.prog 52 = true∧cj Tryz.prog 52 = some false∧(Tryz.prog.underlying 52).isSome = true∧aQ Tryz.prog 52 = true∧bB Tryz.prog 52 = false∧bC Tryz.prog 52 = none∧aV Tryz.prog 52 = 24∧bp Tryz.prog 52 = some 54∧bG Tryz.prog 52 = some [.slice none 0 0]:=by and_intros <;> kernel_rfl
@[go_sem] theorem J1 : cO Tryz.prog 54 = some 15∧de Tryz.prog 54 = true∧cj Tryz.prog 54 = some true∧(Tryz.prog.underlying 54).isSome = true∧aQ Tryz.prog 54 = true∧bB Tryz.prog 54 = false∧bC Tryz.prog 54 = none∧aV Tryz.prog 54 = 224∧bp Tryz.prog 54 = none∧bG Tryz.prog 54 = some [.int .i64 0,.int .i64 0,.slice none 0 0,.slice none 0 0,.int .i64 0,.int .i64 0,.string ⟨#[]⟩,.slice none 0 0,.int .i64 0,.int .i64 0,.string ⟨#[]⟩,.slice none 0 0,.string ⟨#[]⟩,.int .i64 0,.slice none 0 0]∧bM Tryz.prog 54 0 = some (0,3)∧bM Tryz.prog 54 1 = some (1,51)∧bM Tryz.prog 54 2 = some (4,47)∧bM Tryz.prog 54 3 = some (8,47)∧bM Tryz.prog 54 4 = some (12,9)∧bM Tryz.prog 54 5 = some (13,3):=by and_intros <;> kernel_rfl
@[go_sem] theorem J2 : bM Tryz.prog 54 6 = some (14,52)∧dW Tryz.prog 54 = some [(0,1),(1,3),(4,4),(8,4),(12,1),(13,1),(14,1)]:=by and_intros <;> kernel_rfl
@[go_sem] theorem J3 : cO Tryz.prog 55 = some 1∧de Tryz.prog 55 = true∧cj Tryz.prog 55 = some false∧(Tryz.prog.underlying 55).isSome = true∧aQ Tryz.prog 55 = true∧bB Tryz.prog 55 = false∧bC Tryz.prog 55 = none∧aV Tryz.prog 55 = 24∧bp Tryz.prog 55 = some 57∧bG Tryz.prog 55 = some [.slice none 0 0]:=by and_intros <;> kernel_rfl
@[go_sem] theorem J4 : cO Tryz.prog 57 = some 35∧de Tryz.prog 57 = true∧cj Tryz.prog 57 = some true∧(Tryz.prog.underlying 57).isSome = true∧aQ Tryz.prog 57 = true∧bB Tryz.prog 57 = false∧bC Tryz.prog 57 = none∧aV Tryz.prog 57 = 568∧bp Tryz.prog 57 = none∧bG Tryz.prog 57 = some [.int .i64 0,.string ⟨#[]⟩,.string ⟨#[]⟩,.string ⟨#[]⟩,.int .i64 0,.int .i64 0,.string ⟨#[]⟩,.slice none 0 0,.int .i64 0,.int .i64 0,.string ⟨#[]⟩,.slice none 0 0,.int .i64 0,.slice none 0 0,.slice none 0 0,.int .i64 0,.int .i64 0,.slice none 0 0,.slice none 0 0,.int .i64 0,.int .i64 0,.string ⟨#[]⟩,.slice none 0 0,.int .i64 0,.int .i64 0,.string ⟨#[]⟩,.slice none 0 0,.string ⟨#[]⟩,.int .i64 0,.slice none 0 0,.slice none 0 0,.slice none 0 0,.slice none 0 0,.slice none 0 0,.slice none 0 0]∧bM Tryz.prog 57 0 = some (0,3)∧bM Tryz.prog 57 1 = some (1,9)∧bM Tryz.prog 57 2 = some (2,9)∧bM Tryz.prog 57 3 = some (3,9)∧bM Tryz.prog 57 4 = some (4,47)∧bM Tryz.prog 57 5 = some (8,47):=by and_intros <;> kernel_rfl
@[go_sem] theorem J5 : bM Tryz.prog 57 6 = some (12,51)∧bM Tryz.prog 57 7 = some (15,54)∧bM Tryz.prog 57 8 = some (30,45)∧bM Tryz.prog 57 9 = some (31,45)∧bM Tryz.prog 57 10 = some (32,48)∧bM Tryz.prog 57 11 = some (33,55)∧bM Tryz.prog 57 12 = some (34,55)∧dW Tryz.prog 57 = some [(0,1),(1,1),(2,1),(3,1),(4,4),(8,4),(12,3),(15,15),(30,1),(31,1),(32,1),(33,1),(34,1)]:=by and_intros <;> kernel_rfl
@[go_sem] theorem J6 : cO Tryz.prog 59 = some 34∧de Tryz.prog 59 = true∧cj Tryz.prog 59 = some true∧(Tryz.prog.underlying 59).isSome = true∧aQ Tryz.prog 59 = true∧bB Tryz.prog 59 = false∧bC Tryz.prog 59 = none∧aV Tryz.prog 59 = 536∧bp Tryz.prog 59 = none∧bG Tryz.prog 59 = some [.string ⟨#[]⟩,.slice none 0 0,.slice none 0 0,.int .i64 0,.int .i64 0,.slice none 0 0,.slice none 0 0,.int .i64 0,.int .i64 0,.string ⟨#[]⟩,.slice none 0 0,.int .i64 0,.int .i64 0,.string ⟨#[]⟩,.slice none 0 0,.string ⟨#[]⟩,.int .i64 0,.slice none 0 0,.int .i64 0,.int .i64 0,.slice none 0 0,.slice none 0 0,.int .i64 0,.int .i64 0,.string ⟨#[]⟩,.slice none 0 0,.int .i64 0,.int .i64 0,.string ⟨#[]⟩,.slice none 0 0,.string ⟨#[]⟩,.int .i64 0,.slice none 0 0,.slice none 0 0]∧bM Tryz.prog 59 0 = some (0,9)∧bM Tryz.prog 59 1 = some (1,48)∧bM Tryz.prog 59 2 = some (2,48)∧bM Tryz.prog 59 3 = some (3,54)∧bM Tryz.prog 59 4 = some (18,54)∧bM Tryz.prog 59 5 = some (33,55):=by and_intros <;> kernel_rfl
@[go_sem] theorem J7 : dW Tryz.prog 59 = some [(0,1),(1,1),(2,1),(3,15),(18,15),(33,1)]:=by kernel_rfl
@[go_sem] theorem J8 : cO Tryz.prog 63 = some 1∧de Tryz.prog 63 = true∧cj Tryz.prog 63 = some false∧(Tryz.prog.underlying 63).isSome = true∧aQ Tryz.prog 63 = true∧bB Tryz.prog 63 = false∧bC Tryz.prog 63 = none∧aV Tryz.prog 63 = 8∧bp Tryz.prog 63 = none∧bG Tryz.prog 63 = some [.pointer none]:=by and_intros <;> kernel_rfl
@[go_sem] theorem J9 : cO Tryz.prog 65 = some 2∧de Tryz.prog 65 = true∧cj Tryz.prog 65 = some true∧(Tryz.prog.underlying 65).isSome = true∧aQ Tryz.prog 65 = true∧bB Tryz.prog 65 = false∧bC Tryz.prog 65 = none∧aV Tryz.prog 65 = 24∧bp Tryz.prog 65 = none∧bG Tryz.prog 65 = some [.int .i64 0,.nilIface]∧bM Tryz.prog 65 0 = some (0,3)∧bM Tryz.prog 65 1 = some (1,28)∧dW Tryz.prog 65 = some [(0,1),(1,1)]:=by and_intros <;> kernel_rfl
@[go_sem] theorem Ka : cO Tryz.prog 73 = some 1∧de Tryz.prog 73 = true∧cj Tryz.prog 73 = some false∧(Tryz.prog.underlying 73).isSome = true∧aQ Tryz.prog 73 = true∧bB Tryz.prog 73 = false∧bC Tryz.prog 73 = none∧aV Tryz.prog 73 = 8∧bp Tryz.prog 73 = none∧bG Tryz.prog 73 = some [.nilFunc]:=by and_intros <;> kernel_rfl
@[go_sem] theorem Kb : cO Tryz.prog 77 = some 1∧de Tryz.prog 77 = true∧cj Tryz.prog 77 = some false∧(Tryz.prog.underlying 77).isSome = true∧aQ Tryz.prog 77 = true∧bB Tryz.prog 77 = false∧bC Tryz.prog 77 = none∧aV Tryz.prog 77 = 8∧bp Tryz.prog 77 = none∧bG Tryz.prog 77 = some [.pointer none]:=by and_intros <;> kernel_rfl
@[go_sem] theorem Kc : cO Tryz.prog 79 = some 1∧de Tryz.prog 79 = true∧cj Tryz.prog 79 = some true∧(Tryz.prog.underlying 79).isSome = true∧aQ Tryz.prog 79 = true∧bB Tryz.prog 79 = false∧bC Tryz.prog 79 = none∧aV Tryz.prog 79 = 24∧bp Tryz.prog 79 = none∧bG Tryz.prog 79 = some [.slice none 0 0]∧bM Tryz.prog 79 0 = some (0,48)∧dW Tryz.prog 79 = some [(0,1)]:=by and_intros <;> kernel_rfl
@[go_sem] theorem Kd : cO Tryz.prog 82 = some 1∧de Tryz.prog 82 = true∧cj Tryz.prog 82 = some false∧(Tryz.prog.underlying 82).isSome = true∧aQ Tryz.prog 82 = true∧bB Tryz.prog 82 = false∧bC Tryz.prog 82 = none∧aV Tryz.prog 82 = 8∧bp Tryz.prog 82 = none∧bG Tryz.prog 82 = some [.nilFunc]:=by and_intros <;> kernel_rfl
@[go_sem] theorem Ke : cO Tryz.prog 88 = some 1∧de Tryz.prog 88 = true∧cj Tryz.prog 88 = some false∧(Tryz.prog.underlying 88).isSome = true∧aQ Tryz.prog 88 = true∧bB Tryz.prog 88 = false∧bC Tryz.prog 88 = none∧aV Tryz.prog 88 = 8∧bp Tryz.prog 88 = none∧bG Tryz.prog 88 = some [.nilFunc]:=by and_intros <;> kernel_rfl
@[go_sem] theorem Kf : cO Tryz.prog 93 = some 1∧de Tryz.prog 93 = true∧cj Tryz.prog 93 = some false∧(Tryz.prog.underlying 93).isSome = true∧aQ Tryz.prog 93 = true∧bB Tryz.prog 93 = false∧bC Tryz.prog 93 = none∧aV Tryz.prog 93 = 24∧bp Tryz.prog 93 = some 165∧bG Tryz.prog 93 = some [.slice none 0 0]:=by and_intros <;> kernel_rfl
@[go_sem] theorem Kg : cO Tryz.prog 96 = some 1∧de Tryz.prog 96 = true∧cj Tryz.prog 96 = some false∧(Tryz.prog.underlying 96).isSome = true∧aQ Tryz.prog 96 = true∧bB Tryz.prog 96 = false∧bC Tryz.prog 96 = none∧aV Tryz.prog 96 = 8∧bp Tryz.prog 96 = none∧bG Tryz.prog 96 = some [.pointer none]:=by and_intros <;> kernel_rfl
@[go_sem] theorem Kh : cO Tryz.prog 98 = some 4∧de Tryz.prog 98 = true∧cj Tryz.prog 98 = some true∧(Tryz.prog.underlying 98).isSome = true∧aQ Tryz.prog 98 = true∧bB Tryz.prog 98 = false∧bC Tryz.prog 98 = none∧aV Tryz.prog 98 = 56∧bp Tryz.prog 98 = none∧bG Tryz.prog 98 = some [.slice none 0 0,.int .i64 0,.int .i64 0,.nilIface]∧bM Tryz.prog 98 0 = some (0,93)∧bM Tryz.prog 98 1 = some (1,3)∧bM Tryz.prog 98 2 = some (2,3)∧bM Tryz.prog 98 3 = some (3,28)∧dW Tryz.prog 98 = some [(0,1),(1,1),(2,1),(3,1)]:=by and_intros <;> kernel_rfl
@[go_sem] theorem Ki : cO Tryz.prog 117 = some 1∧de Tryz.prog 117 = true∧cj Tryz.prog 117 = some false∧(Tryz.prog.underlying 117).isSome = true∧aQ Tryz.prog 117 = true∧bB Tryz.prog 117 = false∧bC Tryz.prog 117 = none∧aV Tryz.prog 117 = 8∧bp Tryz.prog 117 = none∧bG Tryz.prog 117 = some [.nilFunc]:=by and_intros <;> kernel_rfl
@[go_sem] theorem Kj : cO Tryz.prog 120 = some 1∧de Tryz.prog 120 = true∧cj Tryz.prog 120 = some false∧(Tryz.prog.underlying 120).isSome = true∧aQ Tryz.prog 120 = true∧bB Tryz.prog 120 = false∧bC Tryz.prog 120 = none∧aV Tryz.prog 120 = 8∧bp Tryz.prog 120 = none∧bG Tryz.prog 120 = some [.nilFunc]:=by and_intros <;> kernel_rfl
@[go_sem] theorem Kk : cO Tryz.prog 138 = some 1∧de Tryz.prog 138 = true∧cj Tryz.prog 138 = some false∧(Tryz.prog.underlying 138).isSome = true∧aQ Tryz.prog 138 = true∧bB Tryz.prog 138 = false∧bC Tryz.prog 138 = none∧aV Tryz.prog 138 = 8∧bp Tryz.prog 138 = none∧bG Tryz.prog 138 = some [.nilFunc]:=by and_intros <;> kernel_rfl
@[go_sem] theorem Kl : cO Tryz.prog 141 = some 1∧de Tryz.prog 141 = true∧cj Tryz.prog 141 = some false∧(Tryz.prog.underlying 141).isSome = true∧aQ Tryz.prog 141 = true∧bB Tryz.prog 141 = false∧bC Tryz.prog 141 = none∧aV Tryz.prog 141 = 8∧bp Tryz.prog 141 = none∧bG Tryz.prog 141 = some [.pointer none]:=by and_intros <;> kernel_rfl
@[go_sem] theorem Km : cO Tryz.prog 142 = some 1∧de Tryz.prog 142 = true∧cj Tryz.prog 142 = some false∧(Tryz.prog.underlying 142).isSome = true∧aQ Tryz.prog 142 = true∧bB Tryz.prog 142 = false∧bC Tryz.prog 142 = none∧aV Tryz.prog 142 = 24∧bp Tryz.prog 142 = some 5∧bG Tryz.prog 142 = some [.slice none 0 0]:=by and_intros <;> kernel_rfl
@[go_sem] theorem Kn : cO Tryz.prog 144 = some 2∧de Tryz.prog 144 = true∧cj Tryz.prog 144 = some true∧(Tryz.prog.underlying 144).isSome = true∧aQ Tryz.prog 144 = true∧bB Tryz.prog 144 = false∧bC Tryz.prog 144 = none∧aV Tryz.prog 144 = 32∧bp Tryz.prog 144 = none∧bG Tryz.prog 144 = some [.pointer none,.slice none 0 0]∧bM Tryz.prog 144 0 = some (0,141)∧bM Tryz.prog 144 1 = some (1,142)∧dW Tryz.prog 144 = some [(0,1),(1,1)]:=by and_intros <;> kernel_rfl
@[go_sem] theorem Ko : cO Tryz.prog 145 = some 1∧de Tryz.prog 145 = true∧cj Tryz.prog 145 = some false∧(Tryz.prog.underlying 145).isSome = true∧aQ Tryz.prog 145 = true∧bB Tryz.prog 145 = false∧bC Tryz.prog 145 = none∧aV Tryz.prog 145 = 0∧bp Tryz.prog 145 = none:=by and_intros <;> kernel_rfl
@[go_sem] theorem Kp : cO Tryz.prog 153 = some 1∧de Tryz.prog 153 = true∧cj Tryz.prog 153 = some false∧(Tryz.prog.underlying 153).isSome = true∧aQ Tryz.prog 153 = true∧bB Tryz.prog 153 = false∧bC Tryz.prog 153 = none∧aV Tryz.prog 153 = 8∧bp Tryz.prog 153 = none∧bG Tryz.prog 153 = some [.nilFunc]:=by and_intros <;> kernel_rfl
@[go_sem] theorem Kq : cO Tryz.prog 155 = some 1∧de Tryz.prog 155 = true∧cj Tryz.prog 155 = some false∧(Tryz.prog.underlying 155).isSome = true∧aQ Tryz.prog 155 = true∧bB Tryz.prog 155 = false∧bC Tryz.prog 155 = none∧aV Tryz.prog 155 = 8∧bp Tryz.prog 155 = none∧bG Tryz.prog 155 = some [.nilFunc]:=by and_intros <;> kernel_rfl
@[go_sem] theorem Kr : cO Tryz.prog 156 = some 1∧de Tryz.prog 156 = true∧cj Tryz.prog 156 = some false∧(Tryz.prog.underlying 156).isSome = true∧aQ Tryz.prog 156 = true∧bB Tryz.prog 156 = false∧bC Tryz.prog 156 = none∧aV Tryz.prog 156 = 8∧bp Tryz.prog 156 = none∧bG Tryz.prog 156 = some [.nilFunc]:=by and_intros <;> kernel_rfl
@[go_sem] theorem Ks : cO Tryz.prog 165 = some 3∧de Tryz.prog 165 = true∧cj Tryz.prog 165 = some true∧(Tryz.prog.underlying 165).isSome = true∧aQ Tryz.prog 165 = true∧bB Tryz.prog 165 = false∧bC Tryz.prog 165 = none∧aV Tryz.prog 165 = 32∧bp Tryz.prog 165 = none∧bG Tryz.prog 165 = some [.int .i64 0,.int .i64 0,.string ⟨#[]⟩]∧bM Tryz.prog 165 0 = some (0,3)∧bM Tryz.prog 165 1 = some (1,3)∧bM Tryz.prog 165 2 = some (2,9)∧dW Tryz.prog 165 = some [(0,1),(1,1),(2,1)]:=by and_intros <;> kernel_rfl
@[go_sem] theorem Kt : cO Tryz.prog 173 = some 1∧de Tryz.prog 173 = true∧cj Tryz.prog 173 = some false∧(Tryz.prog.underlying 173).isSome = true∧aQ Tryz.prog 173 = true∧bB Tryz.prog 173 = false∧bC Tryz.prog 173 = none∧aV Tryz.prog 173 = 8∧bp Tryz.prog 173 = none∧bG Tryz.prog 173 = some [.pointer none]:=by and_intros <;> kernel_rfl
@[go_sem] theorem Ku : cO Tryz.prog 199 = some 1∧de Tryz.prog 199 = true∧cj Tryz.prog 199 = some false∧(Tryz.prog.underlying 199).isSome = true∧aQ Tryz.prog 199 = true∧bB Tryz.prog 199 = false∧bC Tryz.prog 199 = none∧aV Tryz.prog 199 = 8∧bp Tryz.prog 199 = none∧bG Tryz.prog 199 = some [.map none]:=by and_intros <;> kernel_rfl
@[go_sem] theorem Kv : cO Tryz.prog 201 = some 1∧de Tryz.prog 201 = true∧cj Tryz.prog 201 = some false∧(Tryz.prog.underlying 201).isSome = true∧aQ Tryz.prog 201 = true∧bB Tryz.prog 201 = false∧bC Tryz.prog 201 = none∧aV Tryz.prog 201 = 8∧bp Tryz.prog 201 = none∧bG Tryz.prog 201 = some [.pointer none]:=by and_intros <;> kernel_rfl
@[go_sem] theorem Kw : cO Tryz.prog 230 = some 1∧de Tryz.prog 230 = true∧cj Tryz.prog 230 = some false∧(Tryz.prog.underlying 230).isSome = true∧aQ Tryz.prog 230 = true∧bB Tryz.prog 230 = false∧bC Tryz.prog 230 = some .u64∧aV Tryz.prog 230 = 8∧bp Tryz.prog 230 = none∧bG Tryz.prog 230 = some [.int .u64 0]:=by and_intros <;> kernel_rfl
@[go_sem] theorem Kx : cO Tryz.prog 242 = some 1∧de Tryz.prog 242 = true∧cj Tryz.prog 242 = some false∧(Tryz.prog.underlying 242).isSome = true∧aQ Tryz.prog 242 = true∧bB Tryz.prog 242 = false∧bC Tryz.prog 242 = some .i64∧aV Tryz.prog 242 = 8∧bp Tryz.prog 242 = none∧bG Tryz.prog 242 = some [.int .i64 0]:=by and_intros <;> kernel_rfl
@[go_sem] theorem Ky : cO Tryz.prog 243 = some 1∧de Tryz.prog 243 = true∧cj Tryz.prog 243 = some false∧(Tryz.prog.underlying 243).isSome = true∧aQ Tryz.prog 243 = true∧bB Tryz.prog 243 = false∧bC Tryz.prog 243 = none∧aV Tryz.prog 243 = 0∧bp Tryz.prog 243 = none:=by and_intros <;> kernel_rfl
@[go_sem] theorem Kz : cO Tryz.prog 247 = some 1∧de Tryz.prog 247 = true∧cj Tryz.prog 247 = some false∧(Tryz.prog.underlying 247).isSome = true∧aQ Tryz.prog 247 = true∧bB Tryz.prog 247 = false∧bC Tryz.prog 247 = none∧aV Tryz.prog 247 = 0∧bp Tryz.prog 247 = none:=by and_intros <;> kernel_rfl
@[go_sem] theorem KA : cO Tryz.prog 250 = some 1∧de Tryz.prog 250 = true∧cj Tryz.prog 250 = some false∧(Tryz.prog.underlying 250).isSome = true∧aQ Tryz.prog 250 = true∧bB Tryz.prog 250 = false∧bC Tryz.prog 250 = some .u32∧aV Tryz.prog 250 = 4∧bp Tryz.prog 250 = none∧bG Tryz.prog 250 = some [.int .u32 0]:=by and_intros <;> kernel_rfl
@[go_sem] theorem KB : cO Tryz.prog 252 = some 1∧de Tryz.prog 252 = true∧cj Tryz.prog 252 = some false∧(Tryz.prog.underlying 252).isSome = true∧aQ Tryz.prog 252 = true∧bB Tryz.prog 252 = false∧bC Tryz.prog 252 = some .u64∧aV Tryz.prog 252 = 8∧bp Tryz.prog 252 = none∧bG Tryz.prog 252 = some [.int .u64 0]:=by and_intros <;> kernel_rfl
@[go_sem] theorem KC : cO Tryz.prog 255 = some 1∧de Tryz.prog 255 = true∧cj Tryz.prog 255 = some false∧(Tryz.prog.underlying 255).isSome = true∧aQ Tryz.prog 255 = true∧bB Tryz.prog 255 = false∧bC Tryz.prog 255 = some .u64∧aV Tryz.prog 255 = 8∧bp Tryz.prog 255 = none∧bG Tryz.prog 255 = some [.int .u64 0]:=by and_intros <;> kernel_rfl
@[go_sem] theorem KD : cO Tryz.prog 259 = some 1∧de Tryz.prog 259 = true∧cj Tryz.prog 259 = some false∧(Tryz.prog.underlying 259).isSome = true∧aQ Tryz.prog 259 = true∧bB Tryz.prog 259 = false∧bC Tryz.prog 259 = none∧aV Tryz.prog 259 = 8∧bp Tryz.prog 259 = none∧bG Tryz.prog 259 = some [.pointer none]:=by and_intros <;> kernel_rfl
@[go_sem] theorem KE : cO Tryz.prog 261 = some 24∧de Tryz.prog 261 = true∧cj Tryz.prog 261 = some true∧(Tryz.prog.underlying 261).isSome = true∧aQ Tryz.prog 261 = true∧bB Tryz.prog 261 = false∧bC Tryz.prog 261 = none∧aV Tryz.prog 261 = 24∧bp Tryz.prog 261 = none∧bG Tryz.prog 261 = some [.int .u8 0,.int .u8 0,.int .u8 0,.int .u8 0,.int .u8 0,.int .u8 0,.int .u8 0,.int .u8 0,.int .u8 0,.int .u8 0,.int .u8 0,.int .u8 0,.int .u8 0,.int .u8 0,.int .u8 0,.int .u8 0,.int .u8 0,.int .u8 0,.int .u8 0,.int .u8 0,.int .u8 0,.int .u8 0,.int .u8 0,.int .u8 0]:=by and_intros <;> kernel_rfl
@[go_sem] theorem KF : cO Tryz.prog 263 = some 1∧de Tryz.prog 263 = true∧cj Tryz.prog 263 = some false∧(Tryz.prog.underlying 263).isSome = true∧aQ Tryz.prog 263 = true∧bB Tryz.prog 263 = false∧bC Tryz.prog 263 = none∧aV Tryz.prog 263 = 0∧bp Tryz.prog 263 = none:=by and_intros <;> kernel_rfl
@[go_sem] theorem KG : cO Tryz.prog 268 = some 1∧de Tryz.prog 268 = true∧cj Tryz.prog 268 = some false∧(Tryz.prog.underlying 268).isSome = true∧aQ Tryz.prog 268 = true∧bB Tryz.prog 268 = false∧bC Tryz.prog 268 = none∧aV Tryz.prog 268 = 8∧bp Tryz.prog 268 = none∧bG Tryz.prog 268 = some [.pointer none]:=by and_intros <;> kernel_rfl
@[go_sem] theorem KH : cO Tryz.prog 271 = some 20∧de Tryz.prog 271 = true∧cj Tryz.prog 271 = some true∧(Tryz.prog.underlying 271).isSome = true∧aQ Tryz.prog 271 = true∧bB Tryz.prog 271 = false∧bC Tryz.prog 271 = none∧aV Tryz.prog 271 = 160∧bp Tryz.prog 271 = none∧bG Tryz.prog 271 = some [.int .u64 0,.int .u64 0,.int .u64 0,.int .u64 0,.int .u64 0,.int .u64 0,.int .u64 0,.int .u64 0,.int .u64 0,.int .u64 0,.int .u64 0,.int .u64 0,.int .u64 0,.int .u64 0,.int .u64 0,.int .u64 0,.int .u64 0,.int .u64 0,.int .u64 0,.int .u64 0]:=by and_intros <;> kernel_rfl
@[go_sem] theorem KI : cO Tryz.prog 272 = some 65∧de Tryz.prog 272 = true∧cj Tryz.prog 272 = some true∧(Tryz.prog.underlying 272).isSome = true∧aQ Tryz.prog 272 = true∧bB Tryz.prog 272 = false∧bC Tryz.prog 272 = none∧aV Tryz.prog 272 = 65∧bp Tryz.prog 272 = none∧bG Tryz.prog 272 = some [.int .u8 0,.int .u8 0,.int .u8 0,.int .u8 0,.int .u8 0,.int .u8 0,.int .u8 0,.int .u8 0,.int .u8 0,.int .u8 0,.int .u8 0,.int .u8 0,.int .u8 0,.int .u8 0,.int .u8 0,.int .u8 0,.int .u8 0,.int .u8 0,.int .u8 0,.int .u8 0,.int .u8 0,.int .u8 0,.int .u8 0,.int .u8 0,.int .u8 0,.int .u8 0,.int .u8 0,.int .u8 0,.int .u8 0,.int .u8 0,.int .u8 0,.int .u8 0,.int .u8 0,.int .u8 0,.int .u8 0,.int .u8 0,.int .u8 0,.int .u8 0,.int .u8 0,.int .u8 0,.int .u8 0,.int .u8 0,.int .u8 0,.int .u8 0,.int .u8 0,.int .u8 0,.int .u8 0,.int .u8 0,.int .u8 0,.int .u8 0,.int .u8 0,.int .u8 0,.int .u8 0,.int .u8 0,.int .u8 0,.int .u8 0,.int .u8 0,.int .u8 0,.int .u8 0,.int .u8 0,.int .u8 0,.int .u8 0,.int .u8 0,.int .u8 0,.int .u8 0]:=by and_intros <;> kernel_rfl
@[go_sem] theorem KJ : cO Tryz.prog 273 = some 32∧de Tryz.prog 273 = true∧cj Tryz.prog 273 = some true∧(Tryz.prog.underlying 273).isSome = true∧aQ Tryz.prog 273 = true∧bB Tryz.prog 273 = false∧bC Tryz.prog 273 = none∧aV Tryz.prog 273 = 32∧bp Tryz.prog 273 = none∧bG Tryz.prog 273 = some [.int .u8 0,.int .u8 0,.int .u8 0,.int .u8 0,.int .u8 0,.int .u8 0,.int .u8 0,.int .u8 0,.int .u8 0,.int .u8 0,.int .u8 0,.int .u8 0,.int .u8 0,.int .u8 0,.int .u8 0,.int .u8 0,.int .u8 0,.int .u8 0,.int .u8 0,.int .u8 0,.int .u8 0,.int .u8 0,.int .u8 0,.int .u8 0,.int .u8 0,.int .u8 0,.int .u8 0,.int .u8 0,.int .u8 0,.int .u8 0,.int .u8 0,.int .u8 0]:=by and_intros <;> kernel_rfl
@[go_sem] theorem F2 : cO Tryz.prog 274 = some 64∧de Tryz.prog 274 = true∧cj Tryz.prog 274 = some true∧(Tryz.prog.underlying 274).isSome = true∧aQ Tryz.prog 274 = true∧bB Tryz.prog 274 = false∧bC Tryz.prog 274 = none∧aV Tryz.prog 274 = 64∧bp Tryz.prog 274 = none∧bG Tryz.prog 274 = some [.int .u8 0,.int .u8 0,.int .u8 0,.int .u8 0,.int .u8 0,.int .u8 0,.int .u8 0,.int .u8 0,.int .u8 0,.int .u8 0,.int .u8 0,.int .u8 0,.int .u8 0,.int .u8 0,.int .u8 0,.int .u8 0,.int .u8 0,.int .u8 0,.int .u8 0,.int .u8 0,.int .u8 0,.int .u8 0,.int .u8 0,.int .u8 0,.int .u8 0,.int .u8 0,.int .u8 0,.int .u8 0,.int .u8 0,.int .u8 0,.int .u8 0,.int .u8 0,.int .u8 0,.int .u8 0,.int .u8 0,.int .u8 0,.int .u8 0,.int .u8 0,.int .u8 0,.int .u8 0,.int .u8 0,.int .u8 0,.int .u8 0,.int .u8 0,.int .u8 0,.int .u8 0,.int .u8 0,.int .u8 0,.int .u8 0,.int .u8 0,.int .u8 0,.int .u8 0,.int .u8 0,.int .u8 0,.int .u8 0,.int .u8 0,.int .u8 0,.int .u8 0,.int .u8 0,.int .u8 0,.int .u8 0,.int .u8 0,.int .u8 0,.int .u8 0]:=by and_intros <;> kernel_rfl
@[go_sem] theorem F3 : oH Tryz.prog 199 = some (.i64,9):=by kernel_rfl
@[go_sem] theorem F4 : pZ Tryz.prog 9 = some (.string ⟨#[]⟩):=by kernel_rfl
@[go_sem] theorem F5 : aL Tryz.prog 5 = true:=by kernel_rfl
@[go_sem] theorem F6 : aL Tryz.prog 7 = true:=by kernel_rfl
@[go_sem] theorem F7 : aL Tryz.prog 13 = true:=by kernel_rfl
@[go_sem] theorem F8 : aL Tryz.prog 14 = true:=by kernel_rfl
@[go_sem] theorem F9 : aL Tryz.prog 15 = true:=by kernel_rfl
@[go_sem] theorem Ga : aL Tryz.prog 16 = true:=by kernel_rfl
@[go_sem] theorem Gb : aL Tryz.prog 17 = true:=by kernel_rfl
@[go_sem] theorem Gc : aL Tryz.prog 18 = true:=by kernel_rfl
@[go_sem] theorem Gd : aL Tryz.prog 19 = true:=by kernel_rfl
@[go_sem] theorem Ge : aL Tryz.prog 20 = true:=by kernel_rfl
@[go_sem] theorem Gf : aL Tryz.prog 23 = true:=by kernel_rfl
@[go_sem] theorem Gg : aL Tryz.prog 31 = true:=by kernel_rfl
@[go_sem] theorem Gi : aL Tryz.prog 32 = true:=by kernel_rfl
@[go_sem] theorem Gj : aL Tryz.prog 33 = true:=by kernel_rfl
@[go_sem] theorem Gk : aL Tryz.prog 34 = true:=by kernel_rfl
@[go_sem] theorem Gm : aL Tryz.prog 35 = true:=by kernel_rfl
@[go_sem] theorem Gn : aL Tryz.prog 36 = true:=by kernel_rfl
@[go_sem] theorem Gp : aL Tryz.prog 37 = true:=by kernel_rfl
@[go_sem] theorem Gq : aL Tryz.prog 38 = true:=by kernel_rfl
@[go_sem] theorem Gr : aL Tryz.prog 39 = true:=by kernel_rfl
@[go_sem] theorem Gs : aL Tryz.prog 40 = true:=by kernel_rfl
@[go_sem] theorem Gt : aL Tryz.prog 41 = true:=by kernel_rfl
@[go_sem] theorem Gu : aL Tryz.prog 42 = true:=by kernel_rfl
@[go_sem] theorem Gv : aL Tryz.prog 43 = true:=by kernel_rfl
@[go_sem] theorem Gw : aL Tryz.prog 44 = true:=by kernel_rfl
@[go_sem] theorem Gx : aL Tryz.prog 45 = true:=by kernel_rfl
@[go_sem] theorem Gy : aL Tryz.prog 46 = true:=by kernel_rfl
@[go_sem] theorem Gz : aL Tryz.prog 47 = true:=by kernel_rfl
@[go_sem] theorem GB : aL Tryz.prog 48 = true:=by kernel_rfl
@[go_sem] theorem GD : aL Tryz.prog 49 = true:=by kernel_rfl
@[go_sem] theorem GE : aL Tryz.prog 50 = true:=by kernel_rfl
@[go_sem] theorem GF : aL Tryz.prog 51 = true:=by kernel_rfl
@[go_sem] theorem GG : aL Tryz.prog 52 = true:=by kernel_rfl
@[go_sem] theorem GH : aL Tryz.prog 53 = true:=by kernel_rfl
@[go_sem] theorem GI : aL Tryz.prog 62 = true:=by kernel_rfl
@[go_sem] theorem GJ : aL Tryz.prog 63 = true:=by kernel_rfl
@[go_sem] theorem GK : aL Tryz.prog 65 = true:=by kernel_rfl
@[go_sem] theorem GL : aL Tryz.prog 66 = true:=by kernel_rfl
@[go_sem] theorem GM : aL Tryz.prog 67 = true:=by kernel_rfl
@[go_sem] theorem GN : aL Tryz.prog 69 = true:=by kernel_rfl
@[go_sem] theorem GO : aL Tryz.prog 70 = true:=by kernel_rfl
@[go_sem] theorem GP : aL Tryz.prog 73 = true:=by kernel_rfl
@[go_sem] theorem GQ : aL Tryz.prog 87 = true:=by kernel_rfl
@[go_sem] theorem GR : aL Tryz.prog 88 = true:=by kernel_rfl
@[go_sem] theorem GS : aL Tryz.prog 89 = true:=by kernel_rfl
@[go_sem] theorem GT : aL Tryz.prog 90 = true:=by kernel_rfl
@[go_sem] theorem GU : aL Tryz.prog 91 = true:=by kernel_rfl
@[go_sem] theorem GV : aL Tryz.prog 92 = true:=by kernel_rfl
@[go_sem] theorem GW : aL Tryz.prog 93 = true:=by kernel_rfl
@[go_sem] theorem GX : aL Tryz.prog 94 = true:=by kernel_rfl
@[go_sem] theorem GY : aL Tryz.prog 95 = true:=by kernel_rfl
@[go_sem] theorem GZ : aL Tryz.prog 96 = true:=by kernel_rfl
@[go_sem] theorem G1 : aL Tryz.prog 97 = true:=by kernel_rfl
@[go_sem] theorem G2 : aL Tryz.prog 98 = true:=by kernel_rfl
@[go_sem] theorem G3 : aL Tryz.prog 99 = true:=by kernel_rfl
@[go_sem] theorem G4 : aL Tryz.prog 100 = true:=by kernel_rfl
@[go_sem] theorem G5 : aL Tryz.prog 101 = true:=by kernel_rfl
@[go_sem] theorem G6 : aL Tryz.prog 102 = true:=by kernel_rfl
@[go_sem] theorem G7 : aL Tryz.prog 103 = true:=by kernel_rfl
@[go_sem] theorem G8 : aL Tryz.prog 104 = true:=by kernel_rfl
@[go_sem] theorem G9 : aL Tryz.prog 105 = true:=by kernel_rfl
@[go_sem] theorem Ha : aL Tryz.prog 106 = true:=by kernel_rfl
@[go_sem] theorem Hb : aL Tryz.prog 107 = true:=by kernel_rfl
@[go_sem] theorem Hc : aL Tryz.prog 108 = true:=by kernel_rfl
@[go_sem] theorem Hd : aL Tryz.prog 109 = true:=by kernel_rfl
@[go_sem] theorem He : aL Tryz.prog 110 = true:=by kernel_rfl
@[go_sem] theorem Hf : aL Tryz.prog 111 = true:=by kernel_rfl
@[go_sem] theorem Hg : aL Tryz.prog 112 = true:=by kernel_rfl
@[go_sem] theorem Hh : aL Tryz.prog 113 = true:=by kernel_rfl
@[go_sem] theorem Hi : aL Tryz.prog 114 = true:=by kernel_rfl
@[go_sem] theorem Hj : aL Tryz.prog 115 = true:=by kernel_rfl
@[go_sem] theorem Hk : aL Tryz.prog 116 = true:=by kernel_rfl
@[go_sem] theorem Hl : aL Tryz.prog 117 = true:=by kernel_rfl
@[go_sem] theorem Hm : aL Tryz.prog 118 = true:=by kernel_rfl
@[go_sem] theorem Hn : aL Tryz.prog 119 = true:=by kernel_rfl
@[go_sem] theorem Ho : aL Tryz.prog 120 = true:=by kernel_rfl
@[go_sem] theorem Hp : aL Tryz.prog 121 = true:=by kernel_rfl
@[go_sem] theorem Hq : aL Tryz.prog 122 = true:=by kernel_rfl
@[go_sem] theorem Hr : aL Tryz.prog 123 = true:=by kernel_rfl
@[go_sem] theorem Hs : aL Tryz.prog 124 = true:=by kernel_rfl
@[go_sem] theorem Ht : aL Tryz.prog 125 = true:=by kernel_rfl
@[go_sem] theorem Hu : aL Tryz.prog 126 = true:=by kernel_rfl
@[go_sem] theorem Hv : aL Tryz.prog 127 = true:=by kernel_rfl
@[go_sem] theorem Hw : aL Tryz.prog 128 = true:=by kernel_rfl
@[go_sem] theorem Hx : aL Tryz.prog 129 = true:=by kernel_rfl
@[go_sem] theorem Hy : aL Tryz.prog 130 = true:=by kernel_rfl
@[go_sem] theorem Hz : aL Tryz.prog 131 = true:=by kernel_rfl
@[go_sem] theorem HA : aL Tryz.prog 132 = true:=by kernel_rfl
@[go_sem] theorem HB : aL Tryz.prog 133 = true:=by kernel_rfl
@[go_sem] theorem HC : aL Tryz.prog 134 = true:=by kernel_rfl
@[go_sem] theorem HD : aL Tryz.prog 136 = true:=by kernel_rfl
@[go_sem] theorem HE : aL Tryz.prog 150 = true:=by kernel_rfl
@[go_sem] theorem HF : aL Tryz.prog 151 = true:=by kernel_rfl
@[go_sem] theorem HG : aL Tryz.prog 152 = true:=by kernel_rfl
@[go_sem] theorem HH : aL Tryz.prog 153 = true:=by kernel_rfl
@[go_sem] theorem HI : aL Tryz.prog 154 = true:=by kernel_rfl
@[go_sem] theorem HJ : aL Tryz.prog 155 = true:=by kernel_rfl
@[go_sem] theorem HK : aL Tryz.prog 156 = true:=by kernel_rfl
@[go_sem] theorem HL : aL Tryz.prog 157 = true:=by kernel_rfl
@[go_sem] theorem HM : aL Tryz.prog 158 = true:=by kernel_rfl
@[go_sem] theorem HN : aL Tryz.prog 162 = true:=by kernel_rfl
@[go_sem] theorem HO : aL Tryz.prog 164 = true:=by kernel_rfl
@[go_sem] theorem HP : aL Tryz.prog 167 = true:=by kernel_rfl
@[go_sem] theorem HQ : aL Tryz.prog 168 = true:=by kernel_rfl
@[go_sem] theorem HR : aL Tryz.prog 169 = true:=by kernel_rfl
@[go_sem] theorem HS : aL Tryz.prog 170 = true:=by kernel_rfl
@[go_sem] theorem HT : aL Tryz.prog 171 = true:=by kernel_rfl
@[go_sem] theorem HU : aL Tryz.prog 172 = true:=by kernel_rfl
@[go_sem] theorem HV : aL Tryz.prog 173 = true:=by kernel_rfl
@[go_sem] theorem HW : aL Tryz.prog 174 = true:=by kernel_rfl
@[go_sem] theorem HX : aL Tryz.prog 175 = true:=by kernel_rfl
@[go_sem] theorem HY : aL Tryz.prog 176 = true:=by kernel_rfl
@[go_sem] theorem HZ : aL Tryz.prog 177 = true:=by kernel_rfl
@[go_sem] theorem H0 : aL Tryz.prog 178 = true:=by kernel_rfl
@[go_sem] theorem H1 : aL Tryz.prog 179 = true:=by kernel_rfl
@[go_sem] theorem H2 : aL Tryz.prog 180 = true:=by kernel_rfl
@[go_sem] theorem H3 : aL Tryz.prog 181 = true:=by kernel_rfl
@[go_sem] theorem H4 : aL Tryz.prog 182 = true:=by kernel_rfl
@[go_sem] theorem H5 : aL Tryz.prog 183 = true:=by kernel_rfl
@[go_sem] theorem H6 : aL Tryz.prog 184 = true:=by kernel_rfl
@[go_sem] theorem H7 : aL Tryz.prog 185 = true:=by kernel_rfl
@[go_sem] theorem H8 : aL Tryz.prog 186 = true:=by kernel_rfl
@[go_sem] theorem H9 : aL Tryz.prog 187 = true:=by kernel_rfl
@[go_sem] theorem Ia : aL Tryz.prog 188 = true:=by kernel_rfl
@[go_sem] theorem Ib : aL Tryz.prog 189 = true:=by kernel_rfl
@[go_sem] theorem Ic : aL Tryz.prog 190 = true:=by kernel_rfl
@[go_sem] theorem Id : aL Tryz.prog 191 = true:=by kernel_rfl
@[go_sem] theorem Ie : aL Tryz.prog 192 = true:=by kernel_rfl
@[go_sem] theorem If : aL Tryz.prog 193 = true:=by kernel_rfl
@[go_sem] theorem Ig : aL Tryz.prog 194 = true:=by kernel_rfl
@[go_sem] theorem Ih : aL Tryz.prog 195 = true:=by kernel_rfl
@[go_sem] theorem Ii : aL Tryz.prog 196 = true:=by kernel_rfl
@[go_sem] theorem Ij : aL Tryz.prog 205 = true:=by kernel_rfl
@[go_sem] theorem Ik : aL Tryz.prog 206 = true:=by kernel_rfl
@[go_sem] theorem Il : aL Tryz.prog 207 = true:=by kernel_rfl
@[go_sem] theorem Im : aL Tryz.prog 208 = true:=by kernel_rfl
@[go_sem] theorem In : aL Tryz.prog 209 = true:=by kernel_rfl
@[go_sem] theorem Io : aL Tryz.prog 210 = true:=by kernel_rfl
@[go_sem] theorem Ip : aL Tryz.prog 211 = false:=by kernel_rfl
@[go_sem] theorem Iq : aL Tryz.prog 212 = false:=by kernel_rfl
@[go_sem] theorem Ir : aL Tryz.prog 213 = true:=by kernel_rfl
@[go_sem] theorem Is : aL Tryz.prog 214 = true:=by kernel_rfl
@[go_sem] theorem It : aL Tryz.prog 215 = true:=by kernel_rfl
@[go_sem] theorem Iu : aL Tryz.prog 216 = true:=by kernel_rfl
@[go_sem] theorem Iv : aL Tryz.prog 217 = true:=by kernel_rfl
@[go_sem] theorem Iw : aL Tryz.prog 218 = true:=by kernel_rfl
@[go_sem] theorem Ix : aL Tryz.prog 219 = true:=by kernel_rfl
@[go_sem] theorem Iy : aL Tryz.prog 220 = true:=by kernel_rfl
@[go_sem] theorem Iz : aL Tryz.prog 221 = true:=by kernel_rfl
@[go_sem] theorem IA : aL Tryz.prog 222 = true:=by kernel_rfl
@[go_sem] theorem IB : aL Tryz.prog 223 = true:=by kernel_rfl
@[go_sem] theorem IC : aL Tryz.prog 224 = true:=by kernel_rfl
@[go_sem] theorem ID : aL Tryz.prog 225 = true:=by kernel_rfl
@[go_sem] theorem IE : aL Tryz.prog 226 = true:=by kernel_rfl
@[go_sem] theorem IF : aL Tryz.prog 227 = true:=by kernel_rfl
@[go_sem] theorem IG : aL Tryz.prog 231 = true:=by kernel_rfl
@[go_sem] theorem IH : aL Tryz.prog 232 = true:=by kernel_rfl
@[go_sem] theorem II : aL Tryz.prog 233 = true:=by kernel_rfl
@[go_sem] theorem IJ : aL Tryz.prog 234 = true:=by kernel_rfl
@[go_sem] theorem IK : aL Tryz.prog 235 = true:=by kernel_rfl
@[go_sem] theorem IL : aL Tryz.prog 236 = true:=by kernel_rfl
@[go_sem] theorem IM : aL Tryz.prog 237 = true:=by kernel_rfl
@[go_sem] theorem IN : aL Tryz.prog 238 = true:=by kernel_rfl
@[go_sem] theorem IO : aL Tryz.prog 239 = true:=by kernel_rfl
@[go_sem] theorem IP : aL Tryz.prog 240 = true:=by kernel_rfl
@[go_sem] theorem IQ : aL Tryz.prog 241 = true:=by kernel_rfl
@[go_sem] theorem IR : aL Tryz.prog 242 = true:=by kernel_rfl
@[go_sem] theorem IS : aL Tryz.prog 243 = false:=by kernel_rfl
@[go_sem] theorem IT : aL Tryz.prog 244 = false:=by kernel_rfl
@[go_sem] theorem IU : aL Tryz.prog 245 = true:=by kernel_rfl
@[go_sem] theorem IV : aL Tryz.prog 246 = true:=by kernel_rfl
@[go_sem] theorem IW : aL Tryz.prog 247 = true:=by kernel_rfl
@[go_sem] theorem IX : aL Tryz.prog 248 = true:=by kernel_rfl
@[go_sem] theorem IY : aL Tryz.prog 249 = true:=by kernel_rfl
@[go_sem] theorem IZ : aL Tryz.prog 251 = true:=by kernel_rfl
@[go_sem] theorem I0 : aL Tryz.prog 252 = true:=by kernel_rfl
@[go_sem] theorem I1 : aL Tryz.prog 253 = true:=by kernel_rfl
@[go_sem] theorem I2 : aL Tryz.prog 254 = true:=by kernel_rfl
@[go_sem] theorem I3 : aL Tryz.prog 255 = true:=by kernel_rfl
@[go_sem] theorem I4 : aL Tryz.prog 256 = true:=by kernel_rfl
@[go_sem] theorem I5 : aL Tryz.prog 257 = true:=by kernel_rfl
@[go_sem] theorem I6 : aL Tryz.prog 258 = true:=by kernel_rfl
@[go_sem] theorem I7 : aL Tryz.prog 259 = true:=by kernel_rfl
@[go_sem] theorem I8 : aL Tryz.prog 260 = true:=by kernel_rfl
@[go_sem] theorem I9 : aL Tryz.prog 262 = true:=by kernel_rfl
@[go_sem] theorem Ja : aL Tryz.prog 263 = true:=by kernel_rfl
@[go_sem] theorem Jb : aL Tryz.prog 264 = true:=by kernel_rfl
@[go_sem] theorem Jc : aL Tryz.prog 265 = true:=by kernel_rfl
@[go_sem] theorem Jd : aL Tryz.prog 266 = true:=by kernel_rfl
@[go_sem] theorem Je : aL Tryz.prog 267 = true:=by kernel_rfl
@[go_sem] theorem Jf : aL Tryz.prog 268 = true:=by kernel_rfl
@[go_sem] theorem Jg : aL Tryz.prog 269 = true:=by kernel_rfl
@[go_sem] theorem Jh : aL Tryz.prog 270 = true:=by kernel_rfl
end Go.Proofs.YtkjnkkmokojnpaaGreatDoor

/- What K asks of the types and functions of this seat, as closed facts. Printed by program. -/
import Derived.Test.YtmpdocplcgbpkaaGreatDoorZ4
import Derived.Test.YtmpdocplcgbpkaaGreatDoorProg
namespace Go.Proofs.YtmpdocplcgbpkaaGreatDoor
set_option linter.unusedSimpArgs false
@[go_sem] theorem kk2 : bZ Tryz.prog 0 = some 1∧cx Tryz.prog 0 = true∧bM Tryz.prog 0 = some false∧(Tryz.prog.underlying 0).isSome = true∧aI Tryz.prog 0 = true∧bm Tryz.prog 0 = false∧bo Tryz.prog 0 = none∧aP Tryz.prog 0 = 0∧aT Tryz.prog 0 = none:=by and_intros <;> kernel_rfl
@[go_sem] theorem kk3 : bZ Tryz.prog 1 = some 1∧cx Tryz.prog 1 = true∧bM Tryz.prog 1 = some false∧(Tryz.prog.underlying 1).isSome = true∧aI Tryz.prog 1 = true∧bm Tryz.prog 1 = false∧bo Tryz.prog 1 = none∧aP Tryz.prog 1 = 8∧aT Tryz.prog 1 = none∧bw Tryz.prog 1 = some [.nilFunc]:=by and_intros <;> kernel_rfl
@[go_sem] theorem kk4 : bZ Tryz.prog 2 = some 1∧cx Tryz.prog 2 = true∧bM Tryz.prog 2 = some false∧(Tryz.prog.underlying 2).isSome = true∧aI Tryz.prog 2 = true∧bm Tryz.prog 2 = false∧bo Tryz.prog 2 = some .i64∧aP Tryz.prog 2 = 8∧aT Tryz.prog 2 = none∧bw Tryz.prog 2 = some [.int .i64 0]:=by and_intros <;> kernel_rfl
@[go_sem] theorem kk5 : bZ Tryz.prog 3 = some 1∧cx Tryz.prog 3 = true∧bM Tryz.prog 3 = some false∧(Tryz.prog.underlying 3).isSome = true∧aI Tryz.prog 3 = true∧bm Tryz.prog 3 = false∧bo Tryz.prog 3 = some .i64∧aP Tryz.prog 3 = 8∧aT Tryz.prog 3 = none∧bw Tryz.prog 3 = some [.int .i64 0]:=by and_intros <;> kernel_rfl
@[go_sem] theorem kk6 : bZ Tryz.prog 4 = some 1∧cx Tryz.prog 4 = true∧bM Tryz.prog 4 = some false∧(Tryz.prog.underlying 4).isSome = true∧aI Tryz.prog 4 = true∧bm Tryz.prog 4 = false∧bo Tryz.prog 4 = none∧aP Tryz.prog 4 = 1∧aT Tryz.prog 4 = none∧bw Tryz.prog 4 = some [.bool false]:=by and_intros <;> kernel_rfl
@[go_sem] theorem kk7 : bZ Tryz.prog 5 = some 1∧cx Tryz.prog 5 = true∧bM Tryz.prog 5 = some false∧(Tryz.prog.underlying 5).isSome = true∧aI Tryz.prog 5 = true∧bm Tryz.prog 5 = false∧bo Tryz.prog 5 = some .u8∧aP Tryz.prog 5 = 1∧aT Tryz.prog 5 = none∧bw Tryz.prog 5 = some [.int .u8 0]:=by and_intros <;> kernel_rfl
@[go_sem] theorem kk8 : bZ Tryz.prog 6 = some 1∧cx Tryz.prog 6 = true∧bM Tryz.prog 6 = some false∧(Tryz.prog.underlying 6).isSome = true∧aI Tryz.prog 6 = true∧bm Tryz.prog 6 = false∧bo Tryz.prog 6 = some .u8∧aP Tryz.prog 6 = 1∧aT Tryz.prog 6 = none∧bw Tryz.prog 6 = some [.int .u8 0]:=by and_intros <;> kernel_rfl
@[go_sem] theorem kk9 : bZ Tryz.prog 7 = some 4∧cx Tryz.prog 7 = true∧bM Tryz.prog 7 = some true∧(Tryz.prog.underlying 7).isSome = true∧aI Tryz.prog 7 = true∧bm Tryz.prog 7 = false∧bo Tryz.prog 7 = none∧aP Tryz.prog 7 = 24∧aT Tryz.prog 7 = none∧bw Tryz.prog 7 = some [.int .i64 0,.int .i64 0,.bool false,.int .u8 0]∧bQ Tryz.prog 7 0 = some (0,2)∧bQ Tryz.prog 7 1 = some (1,3)∧bQ Tryz.prog 7 2 = some (2,4)∧bQ Tryz.prog 7 3 = some (3,6)∧cP Tryz.prog 7 = some [(0,1),(1,1),(2,1),(3,1)]:=by and_intros <;> kernel_rfl
@[go_sem] theorem D6 : bZ Tryz.prog 8 = some 4∧cx Tryz.prog 8 = true∧bM Tryz.prog 8 = some true∧(Tryz.prog.underlying 8).isSome = true∧aI Tryz.prog 8 = true∧bm Tryz.prog 8 = false∧bo Tryz.prog 8 = none∧aP Tryz.prog 8 = 24∧aT Tryz.prog 8 = none∧bw Tryz.prog 8 = some [.int .i64 0,.int .i64 0,.bool false,.int .u8 0]∧bQ Tryz.prog 8 0 = some (0,2)∧bQ Tryz.prog 8 1 = some (1,3)∧bQ Tryz.prog 8 2 = some (2,4)∧bQ Tryz.prog 8 3 = some (3,6)∧cP Tryz.prog 8 = some [(0,1),(1,1),(2,1),(3,1)]:=by and_intros <;> kernel_rfl
@[go_sem] theorem D7 : bZ Tryz.prog 9 = some 1∧cx Tryz.prog 9 = true∧bM Tryz.prog 9 = some false∧(Tryz.prog.underlying 9).isSome = true∧aI Tryz.prog 9 = true∧bm Tryz.prog 9 = true∧bo Tryz.prog 9 = none∧aP Tryz.prog 9 = 16∧aT Tryz.prog 9 = none∧bw Tryz.prog 9 = some [.string ⟨#[]⟩]:=by and_intros <;> kernel_rfl
@[go_sem] theorem D8 : bZ Tryz.prog 10 = some 1∧cx Tryz.prog 10 = true∧bM Tryz.prog 10 = some false∧(Tryz.prog.underlying 10).isSome = true∧aI Tryz.prog 10 = true∧bm Tryz.prog 10 = true∧bo Tryz.prog 10 = none∧aP Tryz.prog 10 = 16∧aT Tryz.prog 10 = none∧bw Tryz.prog 10 = some [.string ⟨#[]⟩]:=by and_intros <;> kernel_rfl
@[go_sem] theorem D9 : bZ Tryz.prog 11 = some 1∧cx Tryz.prog 11 = true∧bM Tryz.prog 11 = some false∧(Tryz.prog.underlying 11).isSome = true∧aI Tryz.prog 11 = true∧bm Tryz.prog 11 = true∧bo Tryz.prog 11 = none∧aP Tryz.prog 11 = 16∧aT Tryz.prog 11 = none∧bw Tryz.prog 11 = some [.string ⟨#[]⟩]:=by and_intros <;> kernel_rfl
@[go_sem] theorem Ea : bZ Tryz.prog 12 = some 1∧cx Tryz.prog 12 = true∧bM Tryz.prog 12 = some false∧(Tryz.prog.underlying 12).isSome = true∧aI Tryz.prog 12 = true∧bm Tryz.prog 12 = false∧bo Tryz.prog 12 = some .u64∧aP Tryz.prog 12 = 8∧aT Tryz.prog 12 = none∧bw Tryz.prog 12 = some [.int .u64 0]:=by and_intros <;> kernel_rfl
@[go_sem] theorem Eb : bZ Tryz.prog 13 = some 2∧cx Tryz.prog 13 = true∧bM Tryz.prog 13 = some true∧(Tryz.prog.underlying 13).isSome = true∧aI Tryz.prog 13 = true∧bm Tryz.prog 13 = false∧bo Tryz.prog 13 = none∧aP Tryz.prog 13 = 24∧aT Tryz.prog 13 = none∧bw Tryz.prog 13 = some [.string ⟨#[]⟩,.int .u64 0]∧bQ Tryz.prog 13 0 = some (0,9)∧bQ Tryz.prog 13 1 = some (1,12)∧cP Tryz.prog 13 = some [(0,1),(1,1)]:=by and_intros <;> kernel_rfl
@[go_sem] theorem Ec : bZ Tryz.prog 14 = some 2∧cx Tryz.prog 14 = true∧bM Tryz.prog 14 = some true∧(Tryz.prog.underlying 14).isSome = true∧aI Tryz.prog 14 = true∧bm Tryz.prog 14 = false∧bo Tryz.prog 14 = none∧aP Tryz.prog 14 = 24∧aT Tryz.prog 14 = none∧bw Tryz.prog 14 = some [.string ⟨#[]⟩,.int .u64 0]∧bQ Tryz.prog 14 0 = some (0,9)∧bQ Tryz.prog 14 1 = some (1,12)∧cP Tryz.prog 14 = some [(0,1),(1,1)]:=by and_intros <;> kernel_rfl
@[go_sem] theorem Ed : bZ Tryz.prog 15 = some 1∧cx Tryz.prog 15 = true∧bM Tryz.prog 15 = some false∧(Tryz.prog.underlying 15).isSome = true∧aI Tryz.prog 15 = true∧bm Tryz.prog 15 = false∧bo Tryz.prog 15 = none∧aP Tryz.prog 15 = 8∧aT Tryz.prog 15 = none∧bw Tryz.prog 15 = some [.pointer none]:=by and_intros <;> kernel_rfl
@[go_sem] theorem Ee : bZ Tryz.prog 16 = some 1∧cx Tryz.prog 16 = true∧bM Tryz.prog 16 = some false∧(Tryz.prog.underlying 16).isSome = true∧aI Tryz.prog 16 = true∧bm Tryz.prog 16 = false∧bo Tryz.prog 16 = none∧aP Tryz.prog 16 = 8∧aT Tryz.prog 16 = none∧bw Tryz.prog 16 = some [.pointer none]:=by and_intros <;> kernel_rfl
@[go_sem] theorem Ef : bZ Tryz.prog 17 = some 1∧cx Tryz.prog 17 = true∧bM Tryz.prog 17 = some false∧(Tryz.prog.underlying 17).isSome = true∧aI Tryz.prog 17 = true∧bm Tryz.prog 17 = false∧bo Tryz.prog 17 = none∧aP Tryz.prog 17 = 8∧aT Tryz.prog 17 = none∧bw Tryz.prog 17 = some [.pointer none]:=by and_intros <;> kernel_rfl
@[go_sem] theorem Eg : bZ Tryz.prog 18 = some 1∧cx Tryz.prog 18 = true∧bM Tryz.prog 18 = some true∧(Tryz.prog.underlying 18).isSome = true∧aI Tryz.prog 18 = true∧bm Tryz.prog 18 = false∧bo Tryz.prog 18 = none∧aP Tryz.prog 18 = 8∧aT Tryz.prog 18 = none∧bw Tryz.prog 18 = some [.pointer none]∧bQ Tryz.prog 18 0 = some (0,17)∧cP Tryz.prog 18 = some [(0,1)]:=by and_intros <;> kernel_rfl
@[go_sem] theorem Eh : bZ Tryz.prog 19 = some 1∧cx Tryz.prog 19 = true∧bM Tryz.prog 19 = some true∧(Tryz.prog.underlying 19).isSome = true∧aI Tryz.prog 19 = true∧bm Tryz.prog 19 = false∧bo Tryz.prog 19 = none∧aP Tryz.prog 19 = 8∧aT Tryz.prog 19 = none∧bw Tryz.prog 19 = some [.pointer none]∧bQ Tryz.prog 19 0 = some (0,17)∧cP Tryz.prog 19 = some [(0,1)]:=by and_intros <;> kernel_rfl
@[go_sem] theorem Ei : bZ Tryz.prog 20 = some 1∧cx Tryz.prog 20 = true∧bM Tryz.prog 20 = some false∧(Tryz.prog.underlying 20).isSome = true∧aI Tryz.prog 20 = false∧bm Tryz.prog 20 = false∧bo Tryz.prog 20 = none∧aP Tryz.prog 20 = 16∧aT Tryz.prog 20 = none∧bw Tryz.prog 20 = some [.nilIface]:=by and_intros <;> kernel_rfl
@[go_sem] theorem Ej : bZ Tryz.prog 21 = some 1∧cx Tryz.prog 21 = true∧bM Tryz.prog 21 = some false∧(Tryz.prog.underlying 21).isSome = true∧aI Tryz.prog 21 = true∧bm Tryz.prog 21 = false∧bo Tryz.prog 21 = some .i32∧aP Tryz.prog 21 = 4∧aT Tryz.prog 21 = none∧bw Tryz.prog 21 = some [.int .i32 0]:=by and_intros <;> kernel_rfl
@[go_sem] theorem Ek : bZ Tryz.prog 22 = some 1∧cx Tryz.prog 22 = true∧bM Tryz.prog 22 = some false∧(Tryz.prog.underlying 22).isSome = true∧aI Tryz.prog 22 = true∧bm Tryz.prog 22 = false∧bo Tryz.prog 22 = none∧aP Tryz.prog 22 = 24∧aT Tryz.prog 22 = some 94∧bw Tryz.prog 22 = some [.slice none 0 0]:=by and_intros <;> kernel_rfl
@[go_sem] theorem El : bZ Tryz.prog 23 = some 2∧cx Tryz.prog 23 = true∧bM Tryz.prog 23 = some true∧(Tryz.prog.underlying 23).isSome = true∧aI Tryz.prog 23 = true∧bm Tryz.prog 23 = false∧bo Tryz.prog 23 = none∧aP Tryz.prog 23 = 32∧aT Tryz.prog 23 = none∧bw Tryz.prog 23 = some [.int .i64 0,.slice none 0 0]∧bQ Tryz.prog 23 0 = some (0,3)∧bQ Tryz.prog 23 1 = some (1,22)∧cP Tryz.prog 23 = some [(0,1),(1,1)]:=by and_intros <;> kernel_rfl
@[go_sem] theorem Em : bZ Tryz.prog 24 = some 2∧cx Tryz.prog 24 = true∧bM Tryz.prog 24 = some true∧(Tryz.prog.underlying 24).isSome = true∧aI Tryz.prog 24 = true∧bm Tryz.prog 24 = false∧bo Tryz.prog 24 = none∧aP Tryz.prog 24 = 32∧aT Tryz.prog 24 = none∧bw Tryz.prog 24 = some [.int .i64 0,.slice none 0 0]∧bQ Tryz.prog 24 0 = some (0,3)∧bQ Tryz.prog 24 1 = some (1,22)∧cP Tryz.prog 24 = some [(0,1),(1,1)]:=by and_intros <;> kernel_rfl
@[go_sem] theorem En : bZ Tryz.prog 25 = some 1∧cx Tryz.prog 25 = true∧bM Tryz.prog 25 = some false∧(Tryz.prog.underlying 25).isSome = true∧aI Tryz.prog 25 = true∧bm Tryz.prog 25 = false∧bo Tryz.prog 25 = none∧aP Tryz.prog 25 = 24∧aT Tryz.prog 25 = some 27∧bw Tryz.prog 25 = some [.slice none 0 0]:=by and_intros <;> kernel_rfl
@[go_sem] theorem Eo : bZ Tryz.prog 26 = some 4∧cx Tryz.prog 26 = true∧bM Tryz.prog 26 = some true∧(Tryz.prog.underlying 26).isSome = true∧aI Tryz.prog 26 = true∧bm Tryz.prog 26 = false∧bo Tryz.prog 26 = none∧aP Tryz.prog 26 = 64∧aT Tryz.prog 26 = none∧bw Tryz.prog 26 = some [.int .i64 0,.int .i64 0,.slice none 0 0,.slice none 0 0]∧bQ Tryz.prog 26 0 = some (0,3)∧bQ Tryz.prog 26 1 = some (1,24)∧bQ Tryz.prog 26 2 = some (3,25)∧cP Tryz.prog 26 = some [(0,1),(1,2),(3,1)]:=by and_intros <;> kernel_rfl
@[go_sem] theorem Ep : bZ Tryz.prog 27 = some 4∧cx Tryz.prog 27 = true∧bM Tryz.prog 27 = some true∧(Tryz.prog.underlying 27).isSome = true∧aI Tryz.prog 27 = true∧bm Tryz.prog 27 = false∧bo Tryz.prog 27 = none∧aP Tryz.prog 27 = 64∧aT Tryz.prog 27 = none∧bw Tryz.prog 27 = some [.int .i64 0,.int .i64 0,.slice none 0 0,.slice none 0 0]∧bQ Tryz.prog 27 0 = some (0,3)∧bQ Tryz.prog 27 1 = some (1,24)∧bQ Tryz.prog 27 2 = some (3,25)∧cP Tryz.prog 27 = some [(0,1),(1,2),(3,1)]:=by and_intros <;> kernel_rfl
@[go_sem] theorem Er : bZ Tryz.prog 28 = some 1∧cx Tryz.prog 28 = true∧bM Tryz.prog 28 = some false∧(Tryz.prog.underlying 28).isSome = true∧aI Tryz.prog 28 = true∧bm Tryz.prog 28 = false∧bo Tryz.prog 28 = none∧aP Tryz.prog 28 = 24∧aT Tryz.prog 28 = some 44∧bw Tryz.prog 28 = some [.slice none 0 0]:=by and_intros <;> kernel_rfl
@[go_sem] theorem Es : bZ Tryz.prog 29 = some 1∧cx Tryz.prog 29 = true∧bM Tryz.prog 29 = some false∧(Tryz.prog.underlying 29).isSome = true∧aI Tryz.prog 29 = true∧bm Tryz.prog 29 = false∧bo Tryz.prog 29 = none∧aP Tryz.prog 29 = 24∧aT Tryz.prog 29 = some 41∧bw Tryz.prog 29 = some [.slice none 0 0]:=by and_intros <;> kernel_rfl
@[go_sem] theorem Et : bZ Tryz.prog 30 = some 2∧cx Tryz.prog 30 = true∧bM Tryz.prog 30 = some true∧(Tryz.prog.underlying 30).isSome = true∧aI Tryz.prog 30 = true∧bm Tryz.prog 30 = false∧bo Tryz.prog 30 = none∧aP Tryz.prog 30 = 48∧aT Tryz.prog 30 = none∧bw Tryz.prog 30 = some [.slice none 0 0,.slice none 0 0]∧bQ Tryz.prog 30 0 = some (0,28)∧bQ Tryz.prog 30 1 = some (1,29)∧cP Tryz.prog 30 = some [(0,1),(1,1)]:=by and_intros <;> kernel_rfl
@[go_sem] theorem Eu : bZ Tryz.prog 31 = some 2∧cx Tryz.prog 31 = true∧bM Tryz.prog 31 = some true∧(Tryz.prog.underlying 31).isSome = true∧aI Tryz.prog 31 = true∧bm Tryz.prog 31 = false∧bo Tryz.prog 31 = none∧aP Tryz.prog 31 = 48∧aT Tryz.prog 31 = none∧bw Tryz.prog 31 = some [.slice none 0 0,.slice none 0 0]∧bQ Tryz.prog 31 0 = some (0,28)∧bQ Tryz.prog 31 1 = some (1,29)∧cP Tryz.prog 31 = some [(0,1),(1,1)]:=by and_intros <;> kernel_rfl
@[go_sem] theorem Ev : bZ Tryz.prog 32 = some 1∧cx Tryz.prog 32 = true∧bM Tryz.prog 32 = some false∧(Tryz.prog.underlying 32).isSome = true∧aI Tryz.prog 32 = true∧bm Tryz.prog 32 = false∧bo Tryz.prog 32 = none∧aP Tryz.prog 32 = 8∧aT Tryz.prog 32 = none∧bw Tryz.prog 32 = some [.nilFunc]:=by and_intros <;> kernel_rfl
@[go_sem] theorem Ew : bZ Tryz.prog 33 = some 1∧cx Tryz.prog 33 = true∧bM Tryz.prog 33 = some false∧(Tryz.prog.underlying 33).isSome = true∧aI Tryz.prog 33 = true∧bm Tryz.prog 33 = false∧bo Tryz.prog 33 = none∧aP Tryz.prog 33 = 8∧aT Tryz.prog 33 = none∧bw Tryz.prog 33 = some [.nilFunc]:=by and_intros <;> kernel_rfl
@[go_sem] theorem Ex : bZ Tryz.prog 34 = some 1∧cx Tryz.prog 34 = true∧bM Tryz.prog 34 = some false∧(Tryz.prog.underlying 34).isSome = true∧aI Tryz.prog 34 = false∧bm Tryz.prog 34 = false∧bo Tryz.prog 34 = none∧aP Tryz.prog 34 = 16∧aT Tryz.prog 34 = none∧bw Tryz.prog 34 = some [.nilIface]:=by and_intros <;> kernel_rfl
@[go_sem] theorem Ey : bZ Tryz.prog 35 = some 1∧cx Tryz.prog 35 = true∧bM Tryz.prog 35 = some false∧(Tryz.prog.underlying 35).isSome = true∧aI Tryz.prog 35 = false∧bm Tryz.prog 35 = false∧bo Tryz.prog 35 = none∧aP Tryz.prog 35 = 16∧aT Tryz.prog 35 = none∧bw Tryz.prog 35 = some [.nilIface]:=by and_intros <;> kernel_rfl
@[go_sem] theorem Ez : bZ Tryz.prog 36 = some 1∧cx Tryz.prog 36 = true∧bM Tryz.prog 36 = some false∧(Tryz.prog.underlying 36).isSome = true∧aI Tryz.prog 36 = true∧bm Tryz.prog 36 = false∧bo Tryz.prog 36 = none∧aP Tryz.prog 36 = 8∧aT Tryz.prog 36 = none∧bw Tryz.prog 36 = some [.nilFunc]:=by and_intros <;> kernel_rfl
@[go_sem] theorem EA : bZ Tryz.prog 37 = some 1∧cx Tryz.prog 37 = true∧bM Tryz.prog 37 = some false∧(Tryz.prog.underlying 37).isSome = true∧aI Tryz.prog 37 = true∧bm Tryz.prog 37 = false∧bo Tryz.prog 37 = none∧aP Tryz.prog 37 = 0∧aT Tryz.prog 37 = none:=by and_intros <;> kernel_rfl
@[go_sem] theorem EB : bZ Tryz.prog 38 = some 1∧cx Tryz.prog 38 = true∧bM Tryz.prog 38 = some false∧(Tryz.prog.underlying 38).isSome = true∧aI Tryz.prog 38 = true∧bm Tryz.prog 38 = false∧bo Tryz.prog 38 = none∧aP Tryz.prog 38 = 8∧aT Tryz.prog 38 = none∧bw Tryz.prog 38 = some [.nilFunc]:=by and_intros <;> kernel_rfl
@[go_sem] theorem EC : bZ Tryz.prog 39 = some 1∧cx Tryz.prog 39 = true∧bM Tryz.prog 39 = some false∧(Tryz.prog.underlying 39).isSome = true∧aI Tryz.prog 39 = true∧bm Tryz.prog 39 = false∧bo Tryz.prog 39 = none∧aP Tryz.prog 39 = 8∧aT Tryz.prog 39 = none∧bw Tryz.prog 39 = some [.nilFunc]:=by and_intros <;> kernel_rfl
@[go_sem] theorem ED : bZ Tryz.prog 40 = some 1∧cx Tryz.prog 40 = true∧bM Tryz.prog 40 = some false∧(Tryz.prog.underlying 40).isSome = true∧aI Tryz.prog 40 = true∧bm Tryz.prog 40 = false∧bo Tryz.prog 40 = none∧aP Tryz.prog 40 = 8∧aT Tryz.prog 40 = none∧bw Tryz.prog 40 = some [.nilFunc]:=by and_intros <;> kernel_rfl
@[go_sem] theorem EE : bZ Tryz.prog 41 = some 1∧cx Tryz.prog 41 = true∧bM Tryz.prog 41 = some false∧(Tryz.prog.underlying 41).isSome = true∧aI Tryz.prog 41 = true∧bm Tryz.prog 41 = false∧bo Tryz.prog 41 = none∧aP Tryz.prog 41 = 24∧aT Tryz.prog 41 = some 3∧bw Tryz.prog 41 = some [.slice none 0 0]:=by and_intros <;> kernel_rfl
@[go_sem] theorem EF : bZ Tryz.prog 42 = some 1∧cx Tryz.prog 42 = true∧bM Tryz.prog 42 = some false∧(Tryz.prog.underlying 42).isSome = true∧aI Tryz.prog 42 = true∧bm Tryz.prog 42 = false∧bo Tryz.prog 42 = none∧aP Tryz.prog 42 = 24∧aT Tryz.prog 42 = some 83∧bw Tryz.prog 42 = some [.slice none 0 0]:=by and_intros <;> kernel_rfl
@[go_sem] theorem EG : bZ Tryz.prog 43 = some 2∧cx Tryz.prog 43 = true∧bM Tryz.prog 43 = some true∧(Tryz.prog.underlying 43).isSome = true∧aI Tryz.prog 43 = true∧bm Tryz.prog 43 = false∧bo Tryz.prog 43 = none∧aP Tryz.prog 43 = 48∧aT Tryz.prog 43 = none∧bw Tryz.prog 43 = some [.slice none 0 0,.slice none 0 0]∧bQ Tryz.prog 43 0 = some (0,41)∧bQ Tryz.prog 43 1 = some (1,42)∧cP Tryz.prog 43 = some [(0,1),(1,1)]:=by and_intros <;> kernel_rfl
@[go_sem] theorem EH : bZ Tryz.prog 44 = some 2∧cx Tryz.prog 44 = true∧bM Tryz.prog 44 = some true∧(Tryz.prog.underlying 44).isSome = true∧aI Tryz.prog 44 = true∧bm Tryz.prog 44 = false∧bo Tryz.prog 44 = none∧aP Tryz.prog 44 = 48∧aT Tryz.prog 44 = none∧bw Tryz.prog 44 = some [.slice none 0 0,.slice none 0 0]∧bQ Tryz.prog 44 0 = some (0,41)∧bQ Tryz.prog 44 1 = some (1,42)∧cP Tryz.prog 44 = some [(0,1),(1,1)]:=by and_intros <;> kernel_rfl
@[go_sem] theorem EI : bZ Tryz.prog 45 = some 1∧cx Tryz.prog 45 = true∧bM Tryz.prog 45 = some false∧(Tryz.prog.underlying 45).isSome = true∧aI Tryz.prog 45 = true∧bm Tryz.prog 45 = false∧bo Tryz.prog 45 = none∧aP Tryz.prog 45 = 8∧aT Tryz.prog 45 = none∧bw Tryz.prog 45 = some [.nilFunc]:=by and_intros <;> kernel_rfl
@[go_sem] theorem EJ : bZ Tryz.prog 46 = some 1∧cx Tryz.prog 46 = true∧bM Tryz.prog 46 = some false∧(Tryz.prog.underlying 46).isSome = true∧aI Tryz.prog 46 = true∧bm Tryz.prog 46 = false∧bo Tryz.prog 46 = none∧aP Tryz.prog 46 = 0∧aT Tryz.prog 46 = none:=by and_intros <;> kernel_rfl
@[go_sem] theorem EK : bZ Tryz.prog 47 = some 1∧cx Tryz.prog 47 = true∧bM Tryz.prog 47 = some false∧(Tryz.prog.underlying 47).isSome = true∧aI Tryz.prog 47 = true∧bm Tryz.prog 47 = false∧bo Tryz.prog 47 = none∧aP Tryz.prog 47 = 8∧aT Tryz.prog 47 = none∧bw Tryz.prog 47 = some [.nilFunc]:=by and_intros <;> kernel_rfl
@[go_sem] theorem EL : bZ Tryz.prog 48 = some 1∧cx Tryz.prog 48 = true∧bM Tryz.prog 48 = some false∧(Tryz.prog.underlying 48).isSome = true∧aI Tryz.prog 48 = true∧bm Tryz.prog 48 = false∧bo Tryz.prog 48 = none∧aP Tryz.prog 48 = 8∧aT Tryz.prog 48 = none∧bw Tryz.prog 48 = some [.nilFunc]:=by and_intros <;> kernel_rfl
@[go_sem] theorem EM : bZ Tryz.prog 49 = some 1∧cx Tryz.prog 49 = true∧bM Tryz.prog 49 = some false∧(Tryz.prog.underlying 49).isSome = true∧aI Tryz.prog 49 = true∧bm Tryz.prog 49 = false∧bo Tryz.prog 49 = none∧aP Tryz.prog 49 = 8∧aT Tryz.prog 49 = none∧bw Tryz.prog 49 = some [.nilFunc]:=by and_intros <;> kernel_rfl
@[go_sem] theorem EN : bZ Tryz.prog 50 = some 1∧cx Tryz.prog 50 = true∧bM Tryz.prog 50 = some false∧(Tryz.prog.underlying 50).isSome = true∧aI Tryz.prog 50 = true∧bm Tryz.prog 50 = false∧bo Tryz.prog 50 = some .i64∧aP Tryz.prog 50 = 8∧aT Tryz.prog 50 = none∧bw Tryz.prog 50 = some [.int .i64 0]:=by and_intros <;> kernel_rfl
@[go_sem] theorem EO : bZ Tryz.prog 55 = some 1∧cx Tryz.prog 55 = true∧bM Tryz.prog 55 = some false∧(Tryz.prog.underlying 55).isSome = true∧aI Tryz.prog 55 = true∧bm Tryz.prog 55 = false∧bo Tryz.prog 55 = none∧aP Tryz.prog 55 = 24∧aT Tryz.prog 55 = some 24∧bw Tryz.prog 55 = some [.slice none 0 0]:=by and_intros <;> kernel_rfl
@[go_sem] theorem EP : bZ Tryz.prog 57 = some 3∧cx Tryz.prog 57 = true∧bM Tryz.prog 57 = some true∧(Tryz.prog.underlying 57).isSome = true∧aI Tryz.prog 57 = true∧bm Tryz.prog 57 = false∧bo Tryz.prog 57 = none∧aP Tryz.prog 57 = 56∧aT Tryz.prog 57 = none∧bw Tryz.prog 57 = some [.int .i64 0,.slice none 0 0,.slice none 0 0]∧bQ Tryz.prog 57 0 = some (0,3)∧bQ Tryz.prog 57 1 = some (1,55)∧bQ Tryz.prog 57 2 = some (2,29)∧cP Tryz.prog 57 = some [(0,1),(1,1),(2,1)]:=by and_intros <;> kernel_rfl
@[go_sem] theorem EQ : bZ Tryz.prog 61 = some 1∧cx Tryz.prog 61 = true∧bM Tryz.prog 61 = some false∧(Tryz.prog.underlying 61).isSome = true∧aI Tryz.prog 61 = true∧bm Tryz.prog 61 = false∧bo Tryz.prog 61 = none∧aP Tryz.prog 61 = 8∧aT Tryz.prog 61 = none∧bw Tryz.prog 61 = some [.pointer none]:=by and_intros <;> kernel_rfl
@[go_sem] theorem ER : bZ Tryz.prog 63 = some 2∧cx Tryz.prog 63 = true∧bM Tryz.prog 63 = some true∧(Tryz.prog.underlying 63).isSome = true∧aI Tryz.prog 63 = true∧bm Tryz.prog 63 = false∧bo Tryz.prog 63 = none∧aP Tryz.prog 63 = 24∧aT Tryz.prog 63 = none∧bw Tryz.prog 63 = some [.int .i64 0,.nilIface]∧bQ Tryz.prog 63 0 = some (0,3)∧bQ Tryz.prog 63 1 = some (1,35)∧cP Tryz.prog 63 = some [(0,1),(1,1)]:=by and_intros <;> kernel_rfl
@[go_sem] theorem ES : bZ Tryz.prog 79 = some 1∧cx Tryz.prog 79 = true∧bM Tryz.prog 79 = some false∧(Tryz.prog.underlying 79).isSome = true∧aI Tryz.prog 79 = true∧bm Tryz.prog 79 = false∧bo Tryz.prog 79 = none∧aP Tryz.prog 79 = 8∧aT Tryz.prog 79 = none∧bw Tryz.prog 79 = some [.pointer none]:=by and_intros <;> kernel_rfl
@[go_sem] theorem ET : bZ Tryz.prog 81 = some 1∧cx Tryz.prog 81 = true∧bM Tryz.prog 81 = some false∧(Tryz.prog.underlying 81).isSome = true∧aI Tryz.prog 81 = true∧bm Tryz.prog 81 = false∧bo Tryz.prog 81 = none∧aP Tryz.prog 81 = 24∧aT Tryz.prog 81 = some 181∧bw Tryz.prog 81 = some [.slice none 0 0]:=by and_intros <;> kernel_rfl
@[go_sem] theorem EU : bZ Tryz.prog 83 = some 2∧cx Tryz.prog 83 = true∧bM Tryz.prog 83 = some true∧(Tryz.prog.underlying 83).isSome = true∧aI Tryz.prog 83 = true∧bm Tryz.prog 83 = false∧bo Tryz.prog 83 = none∧aP Tryz.prog 83 = 32∧aT Tryz.prog 83 = none∧bw Tryz.prog 83 = some [.slice none 0 0,.int .i64 0]∧bQ Tryz.prog 83 0 = some (0,81)∧bQ Tryz.prog 83 1 = some (1,3)∧cP Tryz.prog 83 = some [(0,1),(1,1)]:=by and_intros <;> kernel_rfl
@[go_sem] theorem EV : bZ Tryz.prog 85 = some 1∧cx Tryz.prog 85 = true∧bM Tryz.prog 85 = some false∧(Tryz.prog.underlying 85).isSome = true∧aI Tryz.prog 85 = true∧bm Tryz.prog 85 = false∧bo Tryz.prog 85 = none∧aP Tryz.prog 85 = 8∧aT Tryz.prog 85 = none∧bw Tryz.prog 85 = some [.nilFunc]:=by and_intros <;> kernel_rfl
@[go_sem] theorem EW : bZ Tryz.prog 86 = some 1∧cx Tryz.prog 86 = true∧bM Tryz.prog 86 = some false∧(Tryz.prog.underlying 86).isSome = true∧aI Tryz.prog 86 = true∧bm Tryz.prog 86 = false∧bo Tryz.prog 86 = none∧aP Tryz.prog 86 = 8∧aT Tryz.prog 86 = none∧bw Tryz.prog 86 = some [.pointer none]:=by and_intros <;> kernel_rfl
@[go_sem] theorem EX : bZ Tryz.prog 88 = some 4∧cx Tryz.prog 88 = true∧bM Tryz.prog 88 = some true∧(Tryz.prog.underlying 88).isSome = true∧aI Tryz.prog 88 = true∧bm Tryz.prog 88 = false∧bo Tryz.prog 88 = none∧aP Tryz.prog 88 = 64∧aT Tryz.prog 88 = none∧bw Tryz.prog 88 = some [.int .i64 0,.slice none 0 0,.slice none 0 0,.bool false]∧bQ Tryz.prog 88 0 = some (0,57)∧bQ Tryz.prog 88 1 = some (3,4)∧cP Tryz.prog 88 = some [(0,3),(3,1)]:=by and_intros <;> kernel_rfl
@[go_sem] theorem EY : bZ Tryz.prog 94 = some 2∧cx Tryz.prog 94 = true∧bM Tryz.prog 94 = some true∧(Tryz.prog.underlying 94).isSome = true∧aI Tryz.prog 94 = true∧bm Tryz.prog 94 = false∧bo Tryz.prog 94 = none∧aP Tryz.prog 94 = 16∧aT Tryz.prog 94 = none∧bw Tryz.prog 94 = some [.int .i64 0,.int .i64 0]∧bQ Tryz.prog 94 0 = some (0,3)∧bQ Tryz.prog 94 1 = some (1,3)∧cP Tryz.prog 94 = some [(0,1),(1,1)]:=by and_intros <;> kernel_rfl
@[go_sem] theorem EZ : bZ Tryz.prog 102 = some 1∧cx Tryz.prog 102 = true∧bM Tryz.prog 102 = some false∧(Tryz.prog.underlying 102).isSome = true∧aI Tryz.prog 102 = true∧bm Tryz.prog 102 = false∧bo Tryz.prog 102 = none∧aP Tryz.prog 102 = 8∧aT Tryz.prog 102 = none∧bw Tryz.prog 102 = some [.nilFunc]:=by and_intros <;> kernel_rfl
@[go_sem] theorem E0 : bZ Tryz.prog 109 = some 1∧cx Tryz.prog 109 = true∧bM Tryz.prog 109 = some false∧(Tryz.prog.underlying 109).isSome = true∧aI Tryz.prog 109 = true∧bm Tryz.prog 109 = false∧bo Tryz.prog 109 = none∧aP Tryz.prog 109 = 8∧aT Tryz.prog 109 = none∧bw Tryz.prog 109 = some [.nilFunc]:=by and_intros <;> kernel_rfl
@[go_sem] theorem E1 : bZ Tryz.prog 111 = some 1∧cx Tryz.prog 111 = true∧bM Tryz.prog 111 = some false∧(Tryz.prog.underlying 111).isSome = true∧aI Tryz.prog 111 = true∧bm Tryz.prog 111 = false∧bo Tryz.prog 111 = none∧aP Tryz.prog 111 = 8∧aT Tryz.prog 111 = none∧bw Tryz.prog 111 = some [.nilFunc]:=by and_intros <;> kernel_rfl
@[go_sem] theorem E2 : bZ Tryz.prog 120 = some 1∧cx Tryz.prog 120 = true∧bM Tryz.prog 120 = some false∧(Tryz.prog.underlying 120).isSome = true∧aI Tryz.prog 120 = true∧bm Tryz.prog 120 = false∧bo Tryz.prog 120 = none∧aP Tryz.prog 120 = 8∧aT Tryz.prog 120 = none∧bw Tryz.prog 120 = some [.pointer none]:=by and_intros <;> kernel_rfl
@[go_sem] theorem E3 : bZ Tryz.prog 121 = some 1∧cx Tryz.prog 121 = true∧bM Tryz.prog 121 = some false∧(Tryz.prog.underlying 121).isSome = true∧aI Tryz.prog 121 = true∧bm Tryz.prog 121 = false∧bo Tryz.prog 121 = some .u64∧aP Tryz.prog 121 = 8∧aT Tryz.prog 121 = none∧bw Tryz.prog 121 = some [.int .u64 0]:=by and_intros <;> kernel_rfl
@[go_sem] theorem E4 : bZ Tryz.prog 123 = some 3∧cx Tryz.prog 123 = true∧bM Tryz.prog 123 = some true∧(Tryz.prog.underlying 123).isSome = true∧aI Tryz.prog 123 = true∧bm Tryz.prog 123 = false∧bo Tryz.prog 123 = none∧aP Tryz.prog 123 = 24∧aT Tryz.prog 123 = none∧bw Tryz.prog 123 = some [.pointer none,.pointer none,.int .u64 0]∧bQ Tryz.prog 123 0 = some (0,17)∧bQ Tryz.prog 123 1 = some (1,120)∧bQ Tryz.prog 123 2 = some (2,121)∧cP Tryz.prog 123 = some [(0,1),(1,1),(2,1)]:=by and_intros <;> kernel_rfl
@[go_sem] theorem E5 : bZ Tryz.prog 126 = some 1∧cx Tryz.prog 126 = true∧bM Tryz.prog 126 = some false∧(Tryz.prog.underlying 126).isSome = true∧aI Tryz.prog 126 = false∧bm Tryz.prog 126 = false∧bo Tryz.prog 126 = none∧aP Tryz.prog 126 = 16∧aT Tryz.prog 126 = none∧bw Tryz.prog 126 = some [.nilIface]:=by and_intros <;> kernel_rfl
@[go_sem] theorem E6 : bZ Tryz.prog 128 = some 1∧cx Tryz.prog 128 = true∧bM Tryz.prog 128 = some false∧(Tryz.prog.underlying 128).isSome = true∧aI Tryz.prog 128 = true∧bm Tryz.prog 128 = false∧bo Tryz.prog 128 = some .u8∧aP Tryz.prog 128 = 1∧aT Tryz.prog 128 = none∧bw Tryz.prog 128 = some [.int .u8 0]:=by and_intros <;> kernel_rfl
@[go_sem] theorem E7 : bZ Tryz.prog 142 = some 1∧cx Tryz.prog 142 = true∧bM Tryz.prog 142 = some false∧(Tryz.prog.underlying 142).isSome = true∧aI Tryz.prog 142 = true∧bm Tryz.prog 142 = false∧bo Tryz.prog 142 = none∧aP Tryz.prog 142 = 24∧aT Tryz.prog 142 = some 29∧bw Tryz.prog 142 = some [.slice none 0 0]:=by and_intros <;> kernel_rfl
@[go_sem] theorem E8 : bZ Tryz.prog 144 = some 1∧cx Tryz.prog 144 = true∧bM Tryz.prog 144 = some false∧(Tryz.prog.underlying 144).isSome = true∧aI Tryz.prog 144 = true∧bm Tryz.prog 144 = false∧bo Tryz.prog 144 = none∧aP Tryz.prog 144 = 8∧aT Tryz.prog 144 = none∧bw Tryz.prog 144 = some [.pointer none]:=by and_intros <;> kernel_rfl
@[go_sem] theorem E9 : bZ Tryz.prog 146 = some 2∧cx Tryz.prog 146 = true∧bM Tryz.prog 146 = some true∧(Tryz.prog.underlying 146).isSome = true∧aI Tryz.prog 146 = true∧bm Tryz.prog 146 = false∧bo Tryz.prog 146 = none∧aP Tryz.prog 146 = 48∧aT Tryz.prog 146 = none∧bw Tryz.prog 146 = some [.slice none 0 0,.slice none 0 0]∧bQ Tryz.prog 146 0 = some (0,41)∧bQ Tryz.prog 146 1 = some (1,41)∧cP Tryz.prog 146 = some [(0,1),(1,1)]:=by and_intros <;> kernel_rfl
@[go_sem] theorem Fa : bZ Tryz.prog 162 = some 1∧cx Tryz.prog 162 = true∧bM Tryz.prog 162 = some false∧(Tryz.prog.underlying 162).isSome = true∧aI Tryz.prog 162 = false∧bm Tryz.prog 162 = false∧bo Tryz.prog 162 = none∧aP Tryz.prog 162 = 16∧aT Tryz.prog 162 = none∧bw Tryz.prog 162 = some [.nilIface]:=by and_intros <;> kernel_rfl
@[go_sem] theorem Fb : bZ Tryz.prog 165 = some 1∧cx Tryz.prog 165 = true∧bM Tryz.prog 165 = some false∧(Tryz.prog.underlying 165).isSome = true∧aI Tryz.prog 165 = false∧bm Tryz.prog 165 = false∧bo Tryz.prog 165 = none∧aP Tryz.prog 165 = 16∧aT Tryz.prog 165 = none∧bw Tryz.prog 165 = some [.nilIface]:=by and_intros <;> kernel_rfl
@[go_sem] theorem Fc : bZ Tryz.prog 167 = some 1∧cx Tryz.prog 167 = true∧bM Tryz.prog 167 = some false∧(Tryz.prog.underlying 167).isSome = true∧aI Tryz.prog 167 = false∧bm Tryz.prog 167 = false∧bo Tryz.prog 167 = none∧aP Tryz.prog 167 = 16∧aT Tryz.prog 167 = none∧bw Tryz.prog 167 = some [.nilIface]:=by and_intros <;> kernel_rfl
@[go_sem] theorem Fd : bZ Tryz.prog 170 = some 1∧cx Tryz.prog 170 = true∧bM Tryz.prog 170 = some false∧(Tryz.prog.underlying 170).isSome = true∧aI Tryz.prog 170 = false∧bm Tryz.prog 170 = false∧bo Tryz.prog 170 = none∧aP Tryz.prog 170 = 16∧aT Tryz.prog 170 = none∧bw Tryz.prog 170 = some [.nilIface]:=by and_intros <;> kernel_rfl
@[go_sem] theorem Fe : bZ Tryz.prog 181 = some 2∧cx Tryz.prog 181 = true∧bM Tryz.prog 181 = some true∧(Tryz.prog.underlying 181).isSome = true∧aI Tryz.prog 181 = true∧bm Tryz.prog 181 = false∧bo Tryz.prog 181 = none∧aP Tryz.prog 181 = 16∧aT Tryz.prog 181 = none∧bw Tryz.prog 181 = some [.int .i64 0,.int .i64 0]∧bQ Tryz.prog 181 0 = some (0,3)∧bQ Tryz.prog 181 1 = some (1,3)∧cP Tryz.prog 181 = some [(0,1),(1,1)]:=by and_intros <;> kernel_rfl
@[go_sem] theorem Ff : bZ Tryz.prog 184 = some 1∧cx Tryz.prog 184 = true∧bM Tryz.prog 184 = some false∧(Tryz.prog.underlying 184).isSome = true∧aI Tryz.prog 184 = true∧bm Tryz.prog 184 = false∧bo Tryz.prog 184 = none∧aP Tryz.prog 184 = 8∧aT Tryz.prog 184 = none∧bw Tryz.prog 184 = some [.nilFunc]:=by and_intros <;> kernel_rfl
@[go_sem] theorem Fg : bZ Tryz.prog 186 = some 1∧cx Tryz.prog 186 = true∧bM Tryz.prog 186 = some false∧(Tryz.prog.underlying 186).isSome = true∧aI Tryz.prog 186 = true∧bm Tryz.prog 186 = false∧bo Tryz.prog 186 = none∧aP Tryz.prog 186 = 8∧aT Tryz.prog 186 = none∧bw Tryz.prog 186 = some [.nilFunc]:=by and_intros <;> kernel_rfl
@[go_sem] theorem Fh : bZ Tryz.prog 187 = some 1∧cx Tryz.prog 187 = true∧bM Tryz.prog 187 = some false∧(Tryz.prog.underlying 187).isSome = true∧aI Tryz.prog 187 = true∧bm Tryz.prog 187 = false∧bo Tryz.prog 187 = none∧aP Tryz.prog 187 = 8∧aT Tryz.prog 187 = none∧bw Tryz.prog 187 = some [.map none]:=by and_intros <;> kernel_rfl
@[go_sem] theorem Fi : bZ Tryz.prog 193 = some 1∧cx Tryz.prog 193 = true∧bM Tryz.prog 193 = some false∧(Tryz.prog.underlying 193).isSome = true∧aI Tryz.prog 193 = true∧bm Tryz.prog 193 = false∧bo Tryz.prog 193 = none∧aP Tryz.prog 193 = 8∧aT Tryz.prog 193 = none∧bw Tryz.prog 193 = some [.nilFunc]:=by and_intros <;> kernel_rfl
@[go_sem] theorem Fj : bZ Tryz.prog 199 = some 1∧cx Tryz.prog 199 = true∧bM Tryz.prog 199 = some false∧(Tryz.prog.underlying 199).isSome = true∧aI Tryz.prog 199 = true∧bm Tryz.prog 199 = false∧bo Tryz.prog 199 = some .u64∧aP Tryz.prog 199 = 8∧aT Tryz.prog 199 = none∧bw Tryz.prog 199 = some [.int .u64 0]:=by and_intros <;> kernel_rfl
@[go_sem] theorem Fk : bZ Tryz.prog 204 = some 1∧cx Tryz.prog 204 = true∧bM Tryz.prog 204 = some false∧(Tryz.prog.underlying 204).isSome = true∧aI Tryz.prog 204 = true∧bm Tryz.prog 204 = false∧bo Tryz.prog 204 = some .i64∧aP Tryz.prog 204 = 8∧aT Tryz.prog 204 = none∧bw Tryz.prog 204 = some [.int .i64 0]:=by and_intros <;> kernel_rfl
@[go_sem] theorem Fl : bZ Tryz.prog 205 = some 1∧cx Tryz.prog 205 = true∧bM Tryz.prog 205 = some false∧(Tryz.prog.underlying 205).isSome = true∧aI Tryz.prog 205 = true∧bm Tryz.prog 205 = false∧bo Tryz.prog 205 = none∧aP Tryz.prog 205 = 0∧aT Tryz.prog 205 = none:=by and_intros <;> kernel_rfl
@[go_sem] theorem Fm : bZ Tryz.prog 209 = some 1∧cx Tryz.prog 209 = true∧bM Tryz.prog 209 = some false∧(Tryz.prog.underlying 209).isSome = true∧aI Tryz.prog 209 = true∧bm Tryz.prog 209 = false∧bo Tryz.prog 209 = none∧aP Tryz.prog 209 = 0∧aT Tryz.prog 209 = none:=by and_intros <;> kernel_rfl
@[go_sem] theorem Fp : bZ Tryz.prog 212 = some 1∧cx Tryz.prog 212 = true∧bM Tryz.prog 212 = some false∧(Tryz.prog.underlying 212).isSome = true∧aI Tryz.prog 212 = true∧bm Tryz.prog 212 = false∧bo Tryz.prog 212 = some .u32∧aP Tryz.prog 212 = 4∧aT Tryz.prog 212 = none∧bw Tryz.prog 212 = some [.int .u32 0]:=by and_intros <;> kernel_rfl
@[go_sem] theorem Fq : bZ Tryz.prog 214 = some 1∧cx Tryz.prog 214 = true∧bM Tryz.prog 214 = some false∧(Tryz.prog.underlying 214).isSome = true∧aI Tryz.prog 214 = true∧bm Tryz.prog 214 = false∧bo Tryz.prog 214 = some .u64∧aP Tryz.prog 214 = 8∧aT Tryz.prog 214 = none∧bw Tryz.prog 214 = some [.int .u64 0]:=by and_intros <;> kernel_rfl
@[go_sem] theorem Fs : bZ Tryz.prog 215 = some 1∧cx Tryz.prog 215 = true∧bM Tryz.prog 215 = some false∧(Tryz.prog.underlying 215).isSome = true∧aI Tryz.prog 215 = true∧bm Tryz.prog 215 = false∧bo Tryz.prog 215 = some .u64∧aP Tryz.prog 215 = 8∧aT Tryz.prog 215 = none∧bw Tryz.prog 215 = some [.int .u64 0]:=by and_intros <;> kernel_rfl
@[go_sem] theorem Ft : bZ Tryz.prog 219 = some 1∧cx Tryz.prog 219 = true∧bM Tryz.prog 219 = some false∧(Tryz.prog.underlying 219).isSome = true∧aI Tryz.prog 219 = true∧bm Tryz.prog 219 = false∧bo Tryz.prog 219 = none∧aP Tryz.prog 219 = 8∧aT Tryz.prog 219 = none∧bw Tryz.prog 219 = some [.pointer none]:=by and_intros <;> kernel_rfl
@[go_sem] theorem Fu : bZ Tryz.prog 221 = some 1∧cx Tryz.prog 221 = true∧bM Tryz.prog 221 = some false∧(Tryz.prog.underlying 221).isSome = true∧aI Tryz.prog 221 = true∧bm Tryz.prog 221 = false∧bo Tryz.prog 221 = none∧aP Tryz.prog 221 = 8∧aT Tryz.prog 221 = none∧bw Tryz.prog 221 = some [.pointer none]:=by and_intros <;> kernel_rfl
@[go_sem] theorem Fv : ld Tryz.prog 187 = some (.i64,3):=by kernel_rfl
@[go_sem] theorem Fw : mf Tryz.prog 3 = some (.int .i64 0):=by kernel_rfl
@[go_sem] theorem Fx : aM Tryz.prog 4 = true:=by kernel_rfl
@[go_sem] theorem Fy : aM Tryz.prog 5 = true:=by kernel_rfl
@[go_sem] theorem Fz : aM Tryz.prog 6 = true:=by kernel_rfl
@[go_sem] theorem FA : aM Tryz.prog 7 = true:=by kernel_rfl
@[go_sem] theorem FB : aM Tryz.prog 8 = true:=by kernel_rfl
@[go_sem] theorem BP : aM Tryz.prog 10 = true:=by kernel_rfl
@[go_sem] theorem BQ : aM Tryz.prog 11 = true:=by kernel_rfl
@[go_sem] theorem BR : aM Tryz.prog 12 = true:=by kernel_rfl
@[go_sem] theorem BS : aM Tryz.prog 13 = true:=by kernel_rfl
@[go_sem] theorem BT : aM Tryz.prog 14 = true:=by kernel_rfl
@[go_sem] theorem BU : aM Tryz.prog 15 = true:=by kernel_rfl
@[go_sem] theorem BV : aM Tryz.prog 16 = true:=by kernel_rfl
@[go_sem] theorem BW : aM Tryz.prog 17 = true:=by kernel_rfl
@[go_sem] theorem BX : aM Tryz.prog 18 = true:=by kernel_rfl
@[go_sem] theorem BY : aM Tryz.prog 19 = true:=by kernel_rfl
@[go_sem] theorem BZ : aM Tryz.prog 20 = true:=by kernel_rfl
@[go_sem] theorem B5 : aM Tryz.prog 23 = true:=by kernel_rfl
@[go_sem] theorem B6 : aM Tryz.prog 24 = true:=by kernel_rfl
@[go_sem] theorem B7 : aM Tryz.prog 26 = true:=by kernel_rfl
@[go_sem] theorem B8 : aM Tryz.prog 27 = true:=by kernel_rfl
@[go_sem] theorem B9 : aM Tryz.prog 28 = true:=by kernel_rfl
@[go_sem] theorem Ca : aM Tryz.prog 29 = true:=by kernel_rfl
@[go_sem] theorem Cb : aM Tryz.prog 30 = true:=by kernel_rfl
@[go_sem] theorem Cc : aM Tryz.prog 31 = true:=by kernel_rfl
@[go_sem] theorem Cd : aM Tryz.prog 32 = true:=by kernel_rfl
@[go_sem] theorem Ce : aM Tryz.prog 33 = true:=by kernel_rfl
@[go_sem] theorem Cf : aM Tryz.prog 34 = true:=by kernel_rfl
@[go_sem] theorem Cg : aM Tryz.prog 35 = true:=by kernel_rfl
@[go_sem] theorem Ch : aM Tryz.prog 36 = true:=by kernel_rfl
@[go_sem] theorem Ci : aM Tryz.prog 37 = true:=by kernel_rfl
@[go_sem] theorem Cj : aM Tryz.prog 38 = true:=by kernel_rfl
@[go_sem] theorem Ck : aM Tryz.prog 39 = true:=by kernel_rfl
@[go_sem] theorem Cl : aM Tryz.prog 40 = true:=by kernel_rfl
@[go_sem] theorem Cm : aM Tryz.prog 41 = true:=by kernel_rfl
@[go_sem] theorem Cn : aM Tryz.prog 42 = true:=by kernel_rfl
@[go_sem] theorem Co : aM Tryz.prog 43 = true:=by kernel_rfl
@[go_sem] theorem Cp : aM Tryz.prog 44 = true:=by kernel_rfl
@[go_sem] theorem Cq : aM Tryz.prog 51 = true:=by kernel_rfl
@[go_sem] theorem Cr : aM Tryz.prog 52 = true:=by kernel_rfl
@[go_sem] theorem Cs : aM Tryz.prog 53 = true:=by kernel_rfl
@[go_sem] theorem Ct : aM Tryz.prog 54 = true:=by kernel_rfl
@[go_sem] theorem Cu : aM Tryz.prog 56 = true:=by kernel_rfl
@[go_sem] theorem Cv : aM Tryz.prog 57 = true:=by kernel_rfl
@[go_sem] theorem Cw : aM Tryz.prog 58 = true:=by kernel_rfl
@[go_sem] theorem Cx : aM Tryz.prog 59 = true:=by kernel_rfl
@[go_sem] theorem Cy : aM Tryz.prog 60 = true:=by kernel_rfl
@[go_sem] theorem Cz : aM Tryz.prog 61 = true:=by kernel_rfl
@[go_sem] theorem CA : aM Tryz.prog 62 = true:=by kernel_rfl
@[go_sem] theorem CB : aM Tryz.prog 63 = false:=by kernel_rfl
@[go_sem] theorem CC : aM Tryz.prog 64 = false:=by kernel_rfl
@[go_sem] theorem CD : aM Tryz.prog 65 = false:=by kernel_rfl
@[go_sem] theorem CE : aM Tryz.prog 66 = true:=by kernel_rfl
@[go_sem] theorem CF : aM Tryz.prog 67 = false:=by kernel_rfl
@[go_sem] theorem CG : aM Tryz.prog 68 = true:=by kernel_rfl
@[go_sem] theorem CH : aM Tryz.prog 69 = true:=by kernel_rfl
@[go_sem] theorem CI : aM Tryz.prog 70 = true:=by kernel_rfl
@[go_sem] theorem CJ : aM Tryz.prog 71 = true:=by kernel_rfl
@[go_sem] theorem CK : aM Tryz.prog 72 = true:=by kernel_rfl
@[go_sem] theorem CL : aM Tryz.prog 73 = true:=by kernel_rfl
@[go_sem] theorem CM : aM Tryz.prog 74 = true:=by kernel_rfl
@[go_sem] theorem CN : aM Tryz.prog 75 = true:=by kernel_rfl
@[go_sem] theorem CO : aM Tryz.prog 76 = true:=by kernel_rfl
@[go_sem] theorem CP : aM Tryz.prog 77 = true:=by kernel_rfl
@[go_sem] theorem CQ : aM Tryz.prog 78 = true:=by kernel_rfl
@[go_sem] theorem CR : aM Tryz.prog 79 = true:=by kernel_rfl
@[go_sem] theorem CT : aM Tryz.prog 80 = true:=by kernel_rfl
@[go_sem] theorem CU : aM Tryz.prog 81 = true:=by kernel_rfl
@[go_sem] theorem CV : aM Tryz.prog 82 = true:=by kernel_rfl
@[go_sem] theorem CX : aM Tryz.prog 83 = true:=by kernel_rfl
@[go_sem] theorem CY : aM Tryz.prog 84 = true:=by kernel_rfl
@[go_sem] theorem CZ : aM Tryz.prog 85 = true:=by kernel_rfl
@[go_sem] theorem C0 : aM Tryz.prog 86 = true:=by kernel_rfl
@[go_sem] theorem C1 : aM Tryz.prog 87 = true:=by kernel_rfl
@[go_sem] theorem C2 : aM Tryz.prog 96 = true:=by kernel_rfl
@[go_sem] theorem C3 : aM Tryz.prog 99 = true:=by kernel_rfl
@[go_sem] theorem C4 : aM Tryz.prog 100 = true:=by kernel_rfl
@[go_sem] theorem C5 : aM Tryz.prog 101 = true:=by kernel_rfl
@[go_sem] theorem C6 : aM Tryz.prog 102 = false:=by kernel_rfl
@[go_sem] theorem C7 : aM Tryz.prog 103 = false:=by kernel_rfl
@[go_sem] theorem C8 : aM Tryz.prog 104 = true:=by kernel_rfl
@[go_sem] theorem C9 : aM Tryz.prog 105 = true:=by kernel_rfl
@[go_sem] theorem Da : aM Tryz.prog 106 = true:=by kernel_rfl
@[go_sem] theorem Db : aM Tryz.prog 107 = true:=by kernel_rfl
@[go_sem] theorem Dc : aM Tryz.prog 108 = true:=by kernel_rfl
@[go_sem] theorem Dd : aM Tryz.prog 109 = true:=by kernel_rfl
@[go_sem] theorem De : aM Tryz.prog 110 = true:=by kernel_rfl
@[go_sem] theorem Df : aM Tryz.prog 111 = true:=by kernel_rfl
@[go_sem] theorem Dg : aM Tryz.prog 112 = true:=by kernel_rfl
@[go_sem] theorem Dh : aM Tryz.prog 113 = true:=by kernel_rfl
@[go_sem] theorem Di : aM Tryz.prog 114 = true:=by kernel_rfl
@[go_sem] theorem Dj : aM Tryz.prog 115 = true:=by kernel_rfl
@[go_sem] theorem Dk : aM Tryz.prog 117 = true:=by kernel_rfl
@[go_sem] theorem Dl : aM Tryz.prog 118 = true:=by kernel_rfl
@[go_sem] theorem Dm : aM Tryz.prog 119 = true:=by kernel_rfl
@[go_sem] theorem Dn : aM Tryz.prog 120 = true:=by kernel_rfl
@[go_sem] theorem Do : aM Tryz.prog 121 = true:=by kernel_rfl
@[go_sem] theorem Dp : aM Tryz.prog 122 = true:=by kernel_rfl
@[go_sem] theorem Dq : aM Tryz.prog 123 = true:=by kernel_rfl
@[go_sem] theorem Dr : aM Tryz.prog 124 = true:=by kernel_rfl
@[go_sem] theorem Ds : aM Tryz.prog 125 = true:=by kernel_rfl
@[go_sem] theorem Dt : aM Tryz.prog 127 = true:=by kernel_rfl
@[go_sem] theorem Du : aM Tryz.prog 128 = true:=by kernel_rfl
@[go_sem] theorem Dv : aM Tryz.prog 129 = true:=by kernel_rfl
@[go_sem] theorem Dw : aM Tryz.prog 130 = true:=by kernel_rfl
@[go_sem] theorem Dx : aM Tryz.prog 131 = true:=by kernel_rfl
@[go_sem] theorem Dy : aM Tryz.prog 132 = true:=by kernel_rfl
@[go_sem] theorem Dz : aM Tryz.prog 133 = true:=by kernel_rfl
@[go_sem] theorem DA : aM Tryz.prog 134 = true:=by kernel_rfl
@[go_sem] theorem DB : aM Tryz.prog 135 = true:=by kernel_rfl
@[go_sem] theorem DC : aM Tryz.prog 136 = true:=by kernel_rfl
@[go_sem] theorem DD : aM Tryz.prog 137 = true:=by kernel_rfl
@[go_sem] theorem DE : aM Tryz.prog 138 = true:=by kernel_rfl
@[go_sem] theorem DF : aM Tryz.prog 139 = true:=by kernel_rfl
@[go_sem] theorem DG : aM Tryz.prog 140 = true:=by kernel_rfl
@[go_sem] theorem DH : aM Tryz.prog 141 = true:=by kernel_rfl
@[go_sem] theorem DI : aM Tryz.prog 142 = true:=by kernel_rfl
@[go_sem] theorem DJ : aM Tryz.prog 144 = true:=by kernel_rfl
@[go_sem] theorem DK : aM Tryz.prog 145 = true:=by kernel_rfl
@[go_sem] theorem DL : aM Tryz.prog 146 = true:=by kernel_rfl
@[go_sem] theorem DM : aM Tryz.prog 147 = true:=by kernel_rfl
@[go_sem] theorem DN : aM Tryz.prog 148 = true:=by kernel_rfl
@[go_sem] theorem DO : aM Tryz.prog 149 = true:=by kernel_rfl
@[go_sem] theorem DP : aM Tryz.prog 150 = true:=by kernel_rfl
@[go_sem] theorem DQ : aM Tryz.prog 151 = true:=by kernel_rfl
@[go_sem] theorem DR : aM Tryz.prog 152 = true:=by kernel_rfl
@[go_sem] theorem DS : aM Tryz.prog 153 = true:=by kernel_rfl
@[go_sem] theorem DT : aM Tryz.prog 154 = true:=by kernel_rfl
@[go_sem] theorem DU : aM Tryz.prog 155 = true:=by kernel_rfl
@[go_sem] theorem DV : aM Tryz.prog 156 = true:=by kernel_rfl
@[go_sem] theorem DW : aM Tryz.prog 157 = true:=by kernel_rfl
@[go_sem] theorem DX : aM Tryz.prog 158 = true:=by kernel_rfl
@[go_sem] theorem DY : aM Tryz.prog 159 = true:=by kernel_rfl
@[go_sem] theorem DZ : aM Tryz.prog 160 = true:=by kernel_rfl
@[go_sem] theorem D0 : aM Tryz.prog 161 = true:=by kernel_rfl
@[go_sem] theorem D1 : aM Tryz.prog 176 = false:=by kernel_rfl
@[go_sem] theorem D2 : aM Tryz.prog 186 = false:=by kernel_rfl
@[go_sem] theorem D3 : aM Tryz.prog 187 = false:=by kernel_rfl
@[go_sem] theorem D4 : aM Tryz.prog 188 = false:=by kernel_rfl
@[go_sem] theorem D5 : aM Tryz.prog 189 = false:=by kernel_rfl
end Go.Proofs.YtmpdocplcgbpkaaGreatDoor

/- What K asks of the types and functions of this seat, as closed facts. Printed by program. -/
import Derived.Test.YtijpbgflkdjcdaaDoorKL
import Derived.Test.YtijpbgflkdjcdaaDoorProg
namespace Go.Proofs.YtijpbgflkdjcdaaDoor
set_option linter.unusedSimpArgs false
@[go_sem] theorem k_sz_0 : szOf Tryd.prog 0 = some 1 := by kernel_rfl
@[go_sem] theorem k_nz_0 : nzOf Tryd.prog 0 = true := by kernel_rfl
@[go_sem] theorem k_ag_0 : aggOf Tryd.prog 0 = some false := by kernel_rfl
@[go_sem] theorem k_us_0 : (Tryd.prog.underlying 0).isSome = true := by kernel_rfl
@[go_sem] theorem k_cc_0 : concreteT Tryd.prog 0 = true := by kernel_rfl
@[go_sem] theorem k_st_0 : strOfT Tryd.prog 0 = false := by kernel_rfl
@[go_sem] theorem k_ik_0 : intOfT Tryd.prog 0 = none := by kernel_rfl
@[go_sem] theorem k_by_0 : bytesOfT Tryd.prog 0 = 0 := by kernel_rfl
@[go_sem] theorem k_el_0 : elemOf Tryd.prog 0 = none := by kernel_rfl
@[go_sem] theorem k_sz_1 : szOf Tryd.prog 1 = some 1 := by kernel_rfl
@[go_sem] theorem k_nz_1 : nzOf Tryd.prog 1 = true := by kernel_rfl
@[go_sem] theorem k_ag_1 : aggOf Tryd.prog 1 = some false := by kernel_rfl
@[go_sem] theorem k_us_1 : (Tryd.prog.underlying 1).isSome = true := by kernel_rfl
@[go_sem] theorem k_cc_1 : concreteT Tryd.prog 1 = true := by kernel_rfl
@[go_sem] theorem k_st_1 : strOfT Tryd.prog 1 = false := by kernel_rfl
@[go_sem] theorem k_ik_1 : intOfT Tryd.prog 1 = none := by kernel_rfl
@[go_sem] theorem k_by_1 : bytesOfT Tryd.prog 1 = 8 := by kernel_rfl
@[go_sem] theorem k_el_1 : elemOf Tryd.prog 1 = none := by kernel_rfl
@[go_sem] theorem k_ze_1 : zeroOf Tryd.prog 1 = some [.nilFunc] := by kernel_rfl
@[go_sem] theorem k_sz_2 : szOf Tryd.prog 2 = some 1 := by kernel_rfl
@[go_sem] theorem k_nz_2 : nzOf Tryd.prog 2 = true := by kernel_rfl
@[go_sem] theorem k_ag_2 : aggOf Tryd.prog 2 = some false := by kernel_rfl
@[go_sem] theorem k_us_2 : (Tryd.prog.underlying 2).isSome = true := by kernel_rfl
@[go_sem] theorem k_cc_2 : concreteT Tryd.prog 2 = true := by kernel_rfl
@[go_sem] theorem k_st_2 : strOfT Tryd.prog 2 = false := by kernel_rfl
@[go_sem] theorem k_ik_2 : intOfT Tryd.prog 2 = some .i64 := by kernel_rfl
@[go_sem] theorem k_by_2 : bytesOfT Tryd.prog 2 = 8 := by kernel_rfl
@[go_sem] theorem k_el_2 : elemOf Tryd.prog 2 = none := by kernel_rfl
@[go_sem] theorem k_ze_2 : zeroOf Tryd.prog 2 = some [.int .i64 0] := by kernel_rfl
@[go_sem] theorem k_sz_3 : szOf Tryd.prog 3 = some 1 := by kernel_rfl
@[go_sem] theorem k_nz_3 : nzOf Tryd.prog 3 = true := by kernel_rfl
@[go_sem] theorem k_ag_3 : aggOf Tryd.prog 3 = some false := by kernel_rfl
@[go_sem] theorem k_us_3 : (Tryd.prog.underlying 3).isSome = true := by kernel_rfl
@[go_sem] theorem k_cc_3 : concreteT Tryd.prog 3 = true := by kernel_rfl
@[go_sem] theorem k_st_3 : strOfT Tryd.prog 3 = false := by kernel_rfl
@[go_sem] theorem k_ik_3 : intOfT Tryd.prog 3 = some .i64 := by kernel_rfl
@[go_sem] theorem k_by_3 : bytesOfT Tryd.prog 3 = 8 := by kernel_rfl
@[go_sem] theorem k_el_3 : elemOf Tryd.prog 3 = none := by kernel_rfl
@[go_sem] theorem k_ze_3 : zeroOf Tryd.prog 3 = some [.int .i64 0] := by kernel_rfl
@[go_sem] theorem k_sz_4 : szOf Tryd.prog 4 = some 1 := by kernel_rfl
@[go_sem] theorem k_nz_4 : nzOf Tryd.prog 4 = true := by kernel_rfl
@[go_sem] theorem k_ag_4 : aggOf Tryd.prog 4 = some false := by kernel_rfl
@[go_sem] theorem k_us_4 : (Tryd.prog.underlying 4).isSome = true := by kernel_rfl
@[go_sem] theorem k_cc_4 : concreteT Tryd.prog 4 = true := by kernel_rfl
@[go_sem] theorem k_st_4 : strOfT Tryd.prog 4 = false := by kernel_rfl
@[go_sem] theorem k_ik_4 : intOfT Tryd.prog 4 = none := by kernel_rfl
@[go_sem] theorem k_by_4 : bytesOfT Tryd.prog 4 = 1 := by kernel_rfl
@[go_sem] theorem k_el_4 : elemOf Tryd.prog 4 = none := by kernel_rfl
@[go_sem] theorem k_ze_4 : zeroOf Tryd.prog 4 = some [.bool false] := by kernel_rfl
@[go_sem] theorem k_sz_5 : szOf Tryd.prog 5 = some 1 := by kernel_rfl
@[go_sem] theorem k_nz_5 : nzOf Tryd.prog 5 = true := by kernel_rfl
@[go_sem] theorem k_ag_5 : aggOf Tryd.prog 5 = some false := by kernel_rfl
@[go_sem] theorem k_us_5 : (Tryd.prog.underlying 5).isSome = true := by kernel_rfl
@[go_sem] theorem k_cc_5 : concreteT Tryd.prog 5 = true := by kernel_rfl
@[go_sem] theorem k_st_5 : strOfT Tryd.prog 5 = false := by kernel_rfl
@[go_sem] theorem k_ik_5 : intOfT Tryd.prog 5 = some .u8 := by kernel_rfl
@[go_sem] theorem k_by_5 : bytesOfT Tryd.prog 5 = 1 := by kernel_rfl
@[go_sem] theorem k_el_5 : elemOf Tryd.prog 5 = none := by kernel_rfl
@[go_sem] theorem k_ze_5 : zeroOf Tryd.prog 5 = some [.int .u8 0] := by kernel_rfl
@[go_sem] theorem k_sz_6 : szOf Tryd.prog 6 = some 1 := by kernel_rfl
@[go_sem] theorem k_nz_6 : nzOf Tryd.prog 6 = true := by kernel_rfl
@[go_sem] theorem k_ag_6 : aggOf Tryd.prog 6 = some false := by kernel_rfl
@[go_sem] theorem k_us_6 : (Tryd.prog.underlying 6).isSome = true := by kernel_rfl
@[go_sem] theorem k_cc_6 : concreteT Tryd.prog 6 = true := by kernel_rfl
@[go_sem] theorem k_st_6 : strOfT Tryd.prog 6 = false := by kernel_rfl
@[go_sem] theorem k_ik_6 : intOfT Tryd.prog 6 = some .u8 := by kernel_rfl
@[go_sem] theorem k_by_6 : bytesOfT Tryd.prog 6 = 1 := by kernel_rfl
@[go_sem] theorem k_el_6 : elemOf Tryd.prog 6 = none := by kernel_rfl
@[go_sem] theorem k_ze_6 : zeroOf Tryd.prog 6 = some [.int .u8 0] := by kernel_rfl
@[go_sem] theorem k_sz_7 : szOf Tryd.prog 7 = some 4 := by kernel_rfl
@[go_sem] theorem k_nz_7 : nzOf Tryd.prog 7 = true := by kernel_rfl
@[go_sem] theorem k_ag_7 : aggOf Tryd.prog 7 = some true := by kernel_rfl
@[go_sem] theorem k_us_7 : (Tryd.prog.underlying 7).isSome = true := by kernel_rfl
@[go_sem] theorem k_cc_7 : concreteT Tryd.prog 7 = true := by kernel_rfl
@[go_sem] theorem k_st_7 : strOfT Tryd.prog 7 = false := by kernel_rfl
@[go_sem] theorem k_ik_7 : intOfT Tryd.prog 7 = none := by kernel_rfl
@[go_sem] theorem k_by_7 : bytesOfT Tryd.prog 7 = 24 := by kernel_rfl
@[go_sem] theorem k_el_7 : elemOf Tryd.prog 7 = none := by kernel_rfl
@[go_sem] theorem k_ze_7 : zeroOf Tryd.prog 7 = some [.int .i64 0, .int .i64 0, .bool false, .int .u8 0] := by kernel_rfl
@[go_sem] theorem k_fi_7_0 : fieldOf Tryd.prog 7 0 = some (0, 2) := by kernel_rfl
@[go_sem] theorem k_fi_7_1 : fieldOf Tryd.prog 7 1 = some (1, 3) := by kernel_rfl
@[go_sem] theorem k_fi_7_2 : fieldOf Tryd.prog 7 2 = some (2, 4) := by kernel_rfl
@[go_sem] theorem k_fi_7_3 : fieldOf Tryd.prog 7 3 = some (3, 6) := by kernel_rfl
@[go_sem] theorem k_pl_7 : placesOf Tryd.prog 7 = some [(0, 1), (1, 1), (2, 1), (3, 1)] := by kernel_rfl
@[go_sem] theorem k_sz_8 : szOf Tryd.prog 8 = some 4 := by kernel_rfl
@[go_sem] theorem k_nz_8 : nzOf Tryd.prog 8 = true := by kernel_rfl
@[go_sem] theorem k_ag_8 : aggOf Tryd.prog 8 = some true := by kernel_rfl
@[go_sem] theorem k_us_8 : (Tryd.prog.underlying 8).isSome = true := by kernel_rfl
@[go_sem] theorem k_cc_8 : concreteT Tryd.prog 8 = true := by kernel_rfl
@[go_sem] theorem k_st_8 : strOfT Tryd.prog 8 = false := by kernel_rfl
@[go_sem] theorem k_ik_8 : intOfT Tryd.prog 8 = none := by kernel_rfl
@[go_sem] theorem k_by_8 : bytesOfT Tryd.prog 8 = 24 := by kernel_rfl
@[go_sem] theorem k_el_8 : elemOf Tryd.prog 8 = none := by kernel_rfl
@[go_sem] theorem k_ze_8 : zeroOf Tryd.prog 8 = some [.int .i64 0, .int .i64 0, .bool false, .int .u8 0] := by kernel_rfl
@[go_sem] theorem k_fi_8_0 : fieldOf Tryd.prog 8 0 = some (0, 2) := by kernel_rfl
@[go_sem] theorem k_fi_8_1 : fieldOf Tryd.prog 8 1 = some (1, 3) := by kernel_rfl
@[go_sem] theorem k_fi_8_2 : fieldOf Tryd.prog 8 2 = some (2, 4) := by kernel_rfl
@[go_sem] theorem k_fi_8_3 : fieldOf Tryd.prog 8 3 = some (3, 6) := by kernel_rfl
@[go_sem] theorem k_pl_8 : placesOf Tryd.prog 8 = some [(0, 1), (1, 1), (2, 1), (3, 1)] := by kernel_rfl
@[go_sem] theorem k_sz_9 : szOf Tryd.prog 9 = some 1 := by kernel_rfl
@[go_sem] theorem k_nz_9 : nzOf Tryd.prog 9 = true := by kernel_rfl
@[go_sem] theorem k_ag_9 : aggOf Tryd.prog 9 = some false := by kernel_rfl
@[go_sem] theorem k_us_9 : (Tryd.prog.underlying 9).isSome = true := by kernel_rfl
@[go_sem] theorem k_cc_9 : concreteT Tryd.prog 9 = true := by kernel_rfl
@[go_sem] theorem k_st_9 : strOfT Tryd.prog 9 = true := by kernel_rfl
@[go_sem] theorem k_ik_9 : intOfT Tryd.prog 9 = none := by kernel_rfl
@[go_sem] theorem k_by_9 : bytesOfT Tryd.prog 9 = 16 := by kernel_rfl
@[go_sem] theorem k_el_9 : elemOf Tryd.prog 9 = none := by kernel_rfl
@[go_sem] theorem k_ze_9 : zeroOf Tryd.prog 9 = some [.string ⟨#[]⟩] := by kernel_rfl
@[go_sem] theorem k_sz_10 : szOf Tryd.prog 10 = some 1 := by kernel_rfl
@[go_sem] theorem k_nz_10 : nzOf Tryd.prog 10 = true := by kernel_rfl
@[go_sem] theorem k_ag_10 : aggOf Tryd.prog 10 = some false := by kernel_rfl
@[go_sem] theorem k_us_10 : (Tryd.prog.underlying 10).isSome = true := by kernel_rfl
@[go_sem] theorem k_cc_10 : concreteT Tryd.prog 10 = true := by kernel_rfl
@[go_sem] theorem k_st_10 : strOfT Tryd.prog 10 = true := by kernel_rfl
@[go_sem] theorem k_ik_10 : intOfT Tryd.prog 10 = none := by kernel_rfl
@[go_sem] theorem k_by_10 : bytesOfT Tryd.prog 10 = 16 := by kernel_rfl
@[go_sem] theorem k_el_10 : elemOf Tryd.prog 10 = none := by kernel_rfl
@[go_sem] theorem k_ze_10 : zeroOf Tryd.prog 10 = some [.string ⟨#[]⟩] := by kernel_rfl
@[go_sem] theorem k_sz_11 : szOf Tryd.prog 11 = some 1 := by kernel_rfl
@[go_sem] theorem k_nz_11 : nzOf Tryd.prog 11 = true := by kernel_rfl
@[go_sem] theorem k_ag_11 : aggOf Tryd.prog 11 = some false := by kernel_rfl
@[go_sem] theorem k_us_11 : (Tryd.prog.underlying 11).isSome = true := by kernel_rfl
@[go_sem] theorem k_cc_11 : concreteT Tryd.prog 11 = true := by kernel_rfl
@[go_sem] theorem k_st_11 : strOfT Tryd.prog 11 = true := by kernel_rfl
@[go_sem] theorem k_ik_11 : intOfT Tryd.prog 11 = none := by kernel_rfl
@[go_sem] theorem k_by_11 : bytesOfT Tryd.prog 11 = 16 := by kernel_rfl
@[go_sem] theorem k_el_11 : elemOf Tryd.prog 11 = none := by kernel_rfl
@[go_sem] theorem k_ze_11 : zeroOf Tryd.prog 11 = some [.string ⟨#[]⟩] := by kernel_rfl
@[go_sem] theorem k_sz_12 : szOf Tryd.prog 12 = some 1 := by kernel_rfl
@[go_sem] theorem k_nz_12 : nzOf Tryd.prog 12 = true := by kernel_rfl
@[go_sem] theorem k_ag_12 : aggOf Tryd.prog 12 = some false := by kernel_rfl
@[go_sem] theorem k_us_12 : (Tryd.prog.underlying 12).isSome = true := by kernel_rfl
@[go_sem] theorem k_cc_12 : concreteT Tryd.prog 12 = true := by kernel_rfl
@[go_sem] theorem k_st_12 : strOfT Tryd.prog 12 = false := by kernel_rfl
@[go_sem] theorem k_ik_12 : intOfT Tryd.prog 12 = some .u64 := by kernel_rfl
@[go_sem] theorem k_by_12 : bytesOfT Tryd.prog 12 = 8 := by kernel_rfl
@[go_sem] theorem k_el_12 : elemOf Tryd.prog 12 = none := by kernel_rfl
@[go_sem] theorem k_ze_12 : zeroOf Tryd.prog 12 = some [.int .u64 0] := by kernel_rfl
@[go_sem] theorem k_sz_13 : szOf Tryd.prog 13 = some 2 := by kernel_rfl
@[go_sem] theorem k_nz_13 : nzOf Tryd.prog 13 = true := by kernel_rfl
@[go_sem] theorem k_ag_13 : aggOf Tryd.prog 13 = some true := by kernel_rfl
@[go_sem] theorem k_us_13 : (Tryd.prog.underlying 13).isSome = true := by kernel_rfl
@[go_sem] theorem k_cc_13 : concreteT Tryd.prog 13 = true := by kernel_rfl
@[go_sem] theorem k_st_13 : strOfT Tryd.prog 13 = false := by kernel_rfl
@[go_sem] theorem k_ik_13 : intOfT Tryd.prog 13 = none := by kernel_rfl
@[go_sem] theorem k_by_13 : bytesOfT Tryd.prog 13 = 24 := by kernel_rfl
@[go_sem] theorem k_el_13 : elemOf Tryd.prog 13 = none := by kernel_rfl
@[go_sem] theorem k_ze_13 : zeroOf Tryd.prog 13 = some [.string ⟨#[]⟩, .int .u64 0] := by kernel_rfl
@[go_sem] theorem k_fi_13_0 : fieldOf Tryd.prog 13 0 = some (0, 9) := by kernel_rfl
@[go_sem] theorem k_fi_13_1 : fieldOf Tryd.prog 13 1 = some (1, 12) := by kernel_rfl
@[go_sem] theorem k_pl_13 : placesOf Tryd.prog 13 = some [(0, 1), (1, 1)] := by kernel_rfl
@[go_sem] theorem k_sz_14 : szOf Tryd.prog 14 = some 2 := by kernel_rfl
@[go_sem] theorem k_nz_14 : nzOf Tryd.prog 14 = true := by kernel_rfl
@[go_sem] theorem k_ag_14 : aggOf Tryd.prog 14 = some true := by kernel_rfl
@[go_sem] theorem k_us_14 : (Tryd.prog.underlying 14).isSome = true := by kernel_rfl
@[go_sem] theorem k_cc_14 : concreteT Tryd.prog 14 = true := by kernel_rfl
@[go_sem] theorem k_st_14 : strOfT Tryd.prog 14 = false := by kernel_rfl
@[go_sem] theorem k_ik_14 : intOfT Tryd.prog 14 = none := by kernel_rfl
@[go_sem] theorem k_by_14 : bytesOfT Tryd.prog 14 = 24 := by kernel_rfl
@[go_sem] theorem k_el_14 : elemOf Tryd.prog 14 = none := by kernel_rfl
@[go_sem] theorem k_ze_14 : zeroOf Tryd.prog 14 = some [.string ⟨#[]⟩, .int .u64 0] := by kernel_rfl
@[go_sem] theorem k_fi_14_0 : fieldOf Tryd.prog 14 0 = some (0, 9) := by kernel_rfl
@[go_sem] theorem k_fi_14_1 : fieldOf Tryd.prog 14 1 = some (1, 12) := by kernel_rfl
@[go_sem] theorem k_pl_14 : placesOf Tryd.prog 14 = some [(0, 1), (1, 1)] := by kernel_rfl
@[go_sem] theorem k_sz_15 : szOf Tryd.prog 15 = some 1 := by kernel_rfl
@[go_sem] theorem k_nz_15 : nzOf Tryd.prog 15 = true := by kernel_rfl
@[go_sem] theorem k_ag_15 : aggOf Tryd.prog 15 = some false := by kernel_rfl
@[go_sem] theorem k_us_15 : (Tryd.prog.underlying 15).isSome = true := by kernel_rfl
@[go_sem] theorem k_cc_15 : concreteT Tryd.prog 15 = true := by kernel_rfl
@[go_sem] theorem k_st_15 : strOfT Tryd.prog 15 = false := by kernel_rfl
@[go_sem] theorem k_ik_15 : intOfT Tryd.prog 15 = none := by kernel_rfl
@[go_sem] theorem k_by_15 : bytesOfT Tryd.prog 15 = 8 := by kernel_rfl
@[go_sem] theorem k_el_15 : elemOf Tryd.prog 15 = none := by kernel_rfl
@[go_sem] theorem k_ze_15 : zeroOf Tryd.prog 15 = some [.pointer none] := by kernel_rfl
@[go_sem] theorem k_sz_16 : szOf Tryd.prog 16 = some 1 := by kernel_rfl
@[go_sem] theorem k_nz_16 : nzOf Tryd.prog 16 = true := by kernel_rfl
@[go_sem] theorem k_ag_16 : aggOf Tryd.prog 16 = some false := by kernel_rfl
@[go_sem] theorem k_us_16 : (Tryd.prog.underlying 16).isSome = true := by kernel_rfl
@[go_sem] theorem k_cc_16 : concreteT Tryd.prog 16 = true := by kernel_rfl
@[go_sem] theorem k_st_16 : strOfT Tryd.prog 16 = false := by kernel_rfl
@[go_sem] theorem k_ik_16 : intOfT Tryd.prog 16 = none := by kernel_rfl
@[go_sem] theorem k_by_16 : bytesOfT Tryd.prog 16 = 8 := by kernel_rfl
@[go_sem] theorem k_el_16 : elemOf Tryd.prog 16 = none := by kernel_rfl
@[go_sem] theorem k_ze_16 : zeroOf Tryd.prog 16 = some [.pointer none] := by kernel_rfl
@[go_sem] theorem k_sz_17 : szOf Tryd.prog 17 = some 1 := by kernel_rfl
@[go_sem] theorem k_nz_17 : nzOf Tryd.prog 17 = true := by kernel_rfl
@[go_sem] theorem k_ag_17 : aggOf Tryd.prog 17 = some false := by kernel_rfl
@[go_sem] theorem k_us_17 : (Tryd.prog.underlying 17).isSome = true := by kernel_rfl
@[go_sem] theorem k_cc_17 : concreteT Tryd.prog 17 = true := by kernel_rfl
@[go_sem] theorem k_st_17 : strOfT Tryd.prog 17 = false := by kernel_rfl
@[go_sem] theorem k_ik_17 : intOfT Tryd.prog 17 = none := by kernel_rfl
@[go_sem] theorem k_by_17 : bytesOfT Tryd.prog 17 = 8 := by kernel_rfl
@[go_sem] theorem k_el_17 : elemOf Tryd.prog 17 = none := by kernel_rfl
@[go_sem] theorem k_ze_17 : zeroOf Tryd.prog 17 = some [.pointer none] := by kernel_rfl
@[go_sem] theorem k_sz_18 : szOf Tryd.prog 18 = some 1 := by kernel_rfl
@[go_sem] theorem k_nz_18 : nzOf Tryd.prog 18 = true := by kernel_rfl
@[go_sem] theorem k_ag_18 : aggOf Tryd.prog 18 = some true := by kernel_rfl
@[go_sem] theorem k_us_18 : (Tryd.prog.underlying 18).isSome = true := by kernel_rfl
@[go_sem] theorem k_cc_18 : concreteT Tryd.prog 18 = true := by kernel_rfl
@[go_sem] theorem k_st_18 : strOfT Tryd.prog 18 = false := by kernel_rfl
@[go_sem] theorem k_ik_18 : intOfT Tryd.prog 18 = none := by kernel_rfl
@[go_sem] theorem k_by_18 : bytesOfT Tryd.prog 18 = 8 := by kernel_rfl
@[go_sem] theorem k_el_18 : elemOf Tryd.prog 18 = none := by kernel_rfl
@[go_sem] theorem k_ze_18 : zeroOf Tryd.prog 18 = some [.pointer none] := by kernel_rfl
@[go_sem] theorem k_fi_18_0 : fieldOf Tryd.prog 18 0 = some (0, 17) := by kernel_rfl
@[go_sem] theorem k_pl_18 : placesOf Tryd.prog 18 = some [(0, 1)] := by kernel_rfl
@[go_sem] theorem k_sz_19 : szOf Tryd.prog 19 = some 1 := by kernel_rfl
@[go_sem] theorem k_nz_19 : nzOf Tryd.prog 19 = true := by kernel_rfl
@[go_sem] theorem k_ag_19 : aggOf Tryd.prog 19 = some true := by kernel_rfl
@[go_sem] theorem k_us_19 : (Tryd.prog.underlying 19).isSome = true := by kernel_rfl
@[go_sem] theorem k_cc_19 : concreteT Tryd.prog 19 = true := by kernel_rfl
@[go_sem] theorem k_st_19 : strOfT Tryd.prog 19 = false := by kernel_rfl
@[go_sem] theorem k_ik_19 : intOfT Tryd.prog 19 = none := by kernel_rfl
@[go_sem] theorem k_by_19 : bytesOfT Tryd.prog 19 = 8 := by kernel_rfl
@[go_sem] theorem k_el_19 : elemOf Tryd.prog 19 = none := by kernel_rfl
@[go_sem] theorem k_ze_19 : zeroOf Tryd.prog 19 = some [.pointer none] := by kernel_rfl
@[go_sem] theorem k_fi_19_0 : fieldOf Tryd.prog 19 0 = some (0, 17) := by kernel_rfl
@[go_sem] theorem k_pl_19 : placesOf Tryd.prog 19 = some [(0, 1)] := by kernel_rfl
@[go_sem] theorem k_sz_20 : szOf Tryd.prog 20 = some 1 := by kernel_rfl
@[go_sem] theorem k_nz_20 : nzOf Tryd.prog 20 = true := by kernel_rfl
@[go_sem] theorem k_ag_20 : aggOf Tryd.prog 20 = some false := by kernel_rfl
@[go_sem] theorem k_us_20 : (Tryd.prog.underlying 20).isSome = true := by kernel_rfl
@[go_sem] theorem k_cc_20 : concreteT Tryd.prog 20 = false := by kernel_rfl
@[go_sem] theorem k_st_20 : strOfT Tryd.prog 20 = false := by kernel_rfl
@[go_sem] theorem k_ik_20 : intOfT Tryd.prog 20 = none := by kernel_rfl
@[go_sem] theorem k_by_20 : bytesOfT Tryd.prog 20 = 16 := by kernel_rfl
@[go_sem] theorem k_el_20 : elemOf Tryd.prog 20 = none := by kernel_rfl
@[go_sem] theorem k_ze_20 : zeroOf Tryd.prog 20 = some [.nilIface] := by kernel_rfl
@[go_sem] theorem k_sz_21 : szOf Tryd.prog 21 = some 1 := by kernel_rfl
@[go_sem] theorem k_nz_21 : nzOf Tryd.prog 21 = true := by kernel_rfl
@[go_sem] theorem k_ag_21 : aggOf Tryd.prog 21 = some false := by kernel_rfl
@[go_sem] theorem k_us_21 : (Tryd.prog.underlying 21).isSome = true := by kernel_rfl
@[go_sem] theorem k_cc_21 : concreteT Tryd.prog 21 = true := by kernel_rfl
@[go_sem] theorem k_st_21 : strOfT Tryd.prog 21 = false := by kernel_rfl
@[go_sem] theorem k_ik_21 : intOfT Tryd.prog 21 = some .i32 := by kernel_rfl
@[go_sem] theorem k_by_21 : bytesOfT Tryd.prog 21 = 4 := by kernel_rfl
@[go_sem] theorem k_el_21 : elemOf Tryd.prog 21 = none := by kernel_rfl
@[go_sem] theorem k_ze_21 : zeroOf Tryd.prog 21 = some [.int .i32 0] := by kernel_rfl
@[go_sem] theorem k_sz_22 : szOf Tryd.prog 22 = some 1 := by kernel_rfl
@[go_sem] theorem k_nz_22 : nzOf Tryd.prog 22 = true := by kernel_rfl
@[go_sem] theorem k_ag_22 : aggOf Tryd.prog 22 = some false := by kernel_rfl
@[go_sem] theorem k_us_22 : (Tryd.prog.underlying 22).isSome = true := by kernel_rfl
@[go_sem] theorem k_cc_22 : concreteT Tryd.prog 22 = true := by kernel_rfl
@[go_sem] theorem k_st_22 : strOfT Tryd.prog 22 = false := by kernel_rfl
@[go_sem] theorem k_ik_22 : intOfT Tryd.prog 22 = none := by kernel_rfl
@[go_sem] theorem k_by_22 : bytesOfT Tryd.prog 22 = 24 := by kernel_rfl
@[go_sem] theorem k_el_22 : elemOf Tryd.prog 22 = some 49 := by kernel_rfl
@[go_sem] theorem k_ze_22 : zeroOf Tryd.prog 22 = some [.slice none 0 0] := by kernel_rfl
@[go_sem] theorem k_sz_23 : szOf Tryd.prog 23 = some 1 := by kernel_rfl
@[go_sem] theorem k_nz_23 : nzOf Tryd.prog 23 = true := by kernel_rfl
@[go_sem] theorem k_ag_23 : aggOf Tryd.prog 23 = some false := by kernel_rfl
@[go_sem] theorem k_us_23 : (Tryd.prog.underlying 23).isSome = true := by kernel_rfl
@[go_sem] theorem k_cc_23 : concreteT Tryd.prog 23 = true := by kernel_rfl
@[go_sem] theorem k_st_23 : strOfT Tryd.prog 23 = false := by kernel_rfl
@[go_sem] theorem k_ik_23 : intOfT Tryd.prog 23 = none := by kernel_rfl
@[go_sem] theorem k_by_23 : bytesOfT Tryd.prog 23 = 24 := by kernel_rfl
@[go_sem] theorem k_el_23 : elemOf Tryd.prog 23 = some 39 := by kernel_rfl
@[go_sem] theorem k_ze_23 : zeroOf Tryd.prog 23 = some [.slice none 0 0] := by kernel_rfl
@[go_sem] theorem k_sz_24 : szOf Tryd.prog 24 = some 1 := by kernel_rfl
@[go_sem] theorem k_nz_24 : nzOf Tryd.prog 24 = true := by kernel_rfl
@[go_sem] theorem k_ag_24 : aggOf Tryd.prog 24 = some false := by kernel_rfl
@[go_sem] theorem k_us_24 : (Tryd.prog.underlying 24).isSome = true := by kernel_rfl
@[go_sem] theorem k_cc_24 : concreteT Tryd.prog 24 = true := by kernel_rfl
@[go_sem] theorem k_st_24 : strOfT Tryd.prog 24 = false := by kernel_rfl
@[go_sem] theorem k_ik_24 : intOfT Tryd.prog 24 = none := by kernel_rfl
@[go_sem] theorem k_by_24 : bytesOfT Tryd.prog 24 = 8 := by kernel_rfl
@[go_sem] theorem k_el_24 : elemOf Tryd.prog 24 = none := by kernel_rfl
@[go_sem] theorem k_ze_24 : zeroOf Tryd.prog 24 = some [.nilFunc] := by kernel_rfl
@[go_sem] theorem k_sz_25 : szOf Tryd.prog 25 = some 1 := by kernel_rfl
@[go_sem] theorem k_nz_25 : nzOf Tryd.prog 25 = true := by kernel_rfl
@[go_sem] theorem k_ag_25 : aggOf Tryd.prog 25 = some false := by kernel_rfl
@[go_sem] theorem k_us_25 : (Tryd.prog.underlying 25).isSome = true := by kernel_rfl
@[go_sem] theorem k_cc_25 : concreteT Tryd.prog 25 = true := by kernel_rfl
@[go_sem] theorem k_st_25 : strOfT Tryd.prog 25 = false := by kernel_rfl
@[go_sem] theorem k_ik_25 : intOfT Tryd.prog 25 = none := by kernel_rfl
@[go_sem] theorem k_by_25 : bytesOfT Tryd.prog 25 = 8 := by kernel_rfl
@[go_sem] theorem k_el_25 : elemOf Tryd.prog 25 = none := by kernel_rfl
@[go_sem] theorem k_ze_25 : zeroOf Tryd.prog 25 = some [.nilFunc] := by kernel_rfl
@[go_sem] theorem k_sz_26 : szOf Tryd.prog 26 = some 1 := by kernel_rfl
@[go_sem] theorem k_nz_26 : nzOf Tryd.prog 26 = true := by kernel_rfl
@[go_sem] theorem k_ag_26 : aggOf Tryd.prog 26 = some false := by kernel_rfl
@[go_sem] theorem k_us_26 : (Tryd.prog.underlying 26).isSome = true := by kernel_rfl
@[go_sem] theorem k_cc_26 : concreteT Tryd.prog 26 = false := by kernel_rfl
@[go_sem] theorem k_st_26 : strOfT Tryd.prog 26 = false := by kernel_rfl
@[go_sem] theorem k_ik_26 : intOfT Tryd.prog 26 = none := by kernel_rfl
@[go_sem] theorem k_by_26 : bytesOfT Tryd.prog 26 = 16 := by kernel_rfl
@[go_sem] theorem k_el_26 : elemOf Tryd.prog 26 = none := by kernel_rfl
@[go_sem] theorem k_ze_26 : zeroOf Tryd.prog 26 = some [.nilIface] := by kernel_rfl
@[go_sem] theorem k_sz_27 : szOf Tryd.prog 27 = some 1 := by kernel_rfl
@[go_sem] theorem k_nz_27 : nzOf Tryd.prog 27 = true := by kernel_rfl
@[go_sem] theorem k_ag_27 : aggOf Tryd.prog 27 = some false := by kernel_rfl
@[go_sem] theorem k_us_27 : (Tryd.prog.underlying 27).isSome = true := by kernel_rfl
@[go_sem] theorem k_cc_27 : concreteT Tryd.prog 27 = false := by kernel_rfl
@[go_sem] theorem k_st_27 : strOfT Tryd.prog 27 = false := by kernel_rfl
@[go_sem] theorem k_ik_27 : intOfT Tryd.prog 27 = none := by kernel_rfl
@[go_sem] theorem k_by_27 : bytesOfT Tryd.prog 27 = 16 := by kernel_rfl
@[go_sem] theorem k_el_27 : elemOf Tryd.prog 27 = none := by kernel_rfl
@[go_sem] theorem k_ze_27 : zeroOf Tryd.prog 27 = some [.nilIface] := by kernel_rfl
@[go_sem] theorem k_sz_28 : szOf Tryd.prog 28 = some 1 := by kernel_rfl
@[go_sem] theorem k_nz_28 : nzOf Tryd.prog 28 = true := by kernel_rfl
@[go_sem] theorem k_ag_28 : aggOf Tryd.prog 28 = some false := by kernel_rfl
@[go_sem] theorem k_us_28 : (Tryd.prog.underlying 28).isSome = true := by kernel_rfl
@[go_sem] theorem k_cc_28 : concreteT Tryd.prog 28 = true := by kernel_rfl
@[go_sem] theorem k_st_28 : strOfT Tryd.prog 28 = false := by kernel_rfl
@[go_sem] theorem k_ik_28 : intOfT Tryd.prog 28 = none := by kernel_rfl
@[go_sem] theorem k_by_28 : bytesOfT Tryd.prog 28 = 0 := by kernel_rfl
@[go_sem] theorem k_el_28 : elemOf Tryd.prog 28 = none := by kernel_rfl
@[go_sem] theorem k_sz_29 : szOf Tryd.prog 29 = some 1 := by kernel_rfl
@[go_sem] theorem k_nz_29 : nzOf Tryd.prog 29 = true := by kernel_rfl
@[go_sem] theorem k_ag_29 : aggOf Tryd.prog 29 = some false := by kernel_rfl
@[go_sem] theorem k_us_29 : (Tryd.prog.underlying 29).isSome = true := by kernel_rfl
@[go_sem] theorem k_cc_29 : concreteT Tryd.prog 29 = true := by kernel_rfl
@[go_sem] theorem k_st_29 : strOfT Tryd.prog 29 = false := by kernel_rfl
@[go_sem] theorem k_ik_29 : intOfT Tryd.prog 29 = none := by kernel_rfl
@[go_sem] theorem k_by_29 : bytesOfT Tryd.prog 29 = 8 := by kernel_rfl
@[go_sem] theorem k_el_29 : elemOf Tryd.prog 29 = none := by kernel_rfl
@[go_sem] theorem k_ze_29 : zeroOf Tryd.prog 29 = some [.nilFunc] := by kernel_rfl
@[go_sem] theorem k_sz_30 : szOf Tryd.prog 30 = some 1 := by kernel_rfl
@[go_sem] theorem k_nz_30 : nzOf Tryd.prog 30 = true := by kernel_rfl
@[go_sem] theorem k_ag_30 : aggOf Tryd.prog 30 = some false := by kernel_rfl
@[go_sem] theorem k_us_30 : (Tryd.prog.underlying 30).isSome = true := by kernel_rfl
@[go_sem] theorem k_cc_30 : concreteT Tryd.prog 30 = true := by kernel_rfl
@[go_sem] theorem k_st_30 : strOfT Tryd.prog 30 = false := by kernel_rfl
@[go_sem] theorem k_ik_30 : intOfT Tryd.prog 30 = none := by kernel_rfl
@[go_sem] theorem k_by_30 : bytesOfT Tryd.prog 30 = 0 := by kernel_rfl
@[go_sem] theorem k_el_30 : elemOf Tryd.prog 30 = none := by kernel_rfl
@[go_sem] theorem k_sz_31 : szOf Tryd.prog 31 = some 1 := by kernel_rfl
@[go_sem] theorem k_nz_31 : nzOf Tryd.prog 31 = true := by kernel_rfl
@[go_sem] theorem k_ag_31 : aggOf Tryd.prog 31 = some false := by kernel_rfl
@[go_sem] theorem k_us_31 : (Tryd.prog.underlying 31).isSome = true := by kernel_rfl
@[go_sem] theorem k_cc_31 : concreteT Tryd.prog 31 = true := by kernel_rfl
@[go_sem] theorem k_st_31 : strOfT Tryd.prog 31 = false := by kernel_rfl
@[go_sem] theorem k_ik_31 : intOfT Tryd.prog 31 = none := by kernel_rfl
@[go_sem] theorem k_by_31 : bytesOfT Tryd.prog 31 = 8 := by kernel_rfl
@[go_sem] theorem k_el_31 : elemOf Tryd.prog 31 = none := by kernel_rfl
@[go_sem] theorem k_ze_31 : zeroOf Tryd.prog 31 = some [.nilFunc] := by kernel_rfl
@[go_sem] theorem k_sz_32 : szOf Tryd.prog 32 = some 1 := by kernel_rfl
@[go_sem] theorem k_nz_32 : nzOf Tryd.prog 32 = true := by kernel_rfl
@[go_sem] theorem k_ag_32 : aggOf Tryd.prog 32 = some false := by kernel_rfl
@[go_sem] theorem k_us_32 : (Tryd.prog.underlying 32).isSome = true := by kernel_rfl
@[go_sem] theorem k_cc_32 : concreteT Tryd.prog 32 = true := by kernel_rfl
@[go_sem] theorem k_st_32 : strOfT Tryd.prog 32 = false := by kernel_rfl
@[go_sem] theorem k_ik_32 : intOfT Tryd.prog 32 = none := by kernel_rfl
@[go_sem] theorem k_by_32 : bytesOfT Tryd.prog 32 = 8 := by kernel_rfl
@[go_sem] theorem k_el_32 : elemOf Tryd.prog 32 = none := by kernel_rfl
@[go_sem] theorem k_ze_32 : zeroOf Tryd.prog 32 = some [.nilFunc] := by kernel_rfl
@[go_sem] theorem k_sz_33 : szOf Tryd.prog 33 = some 1 := by kernel_rfl
@[go_sem] theorem k_nz_33 : nzOf Tryd.prog 33 = true := by kernel_rfl
@[go_sem] theorem k_ag_33 : aggOf Tryd.prog 33 = some false := by kernel_rfl
@[go_sem] theorem k_us_33 : (Tryd.prog.underlying 33).isSome = true := by kernel_rfl
@[go_sem] theorem k_cc_33 : concreteT Tryd.prog 33 = true := by kernel_rfl
@[go_sem] theorem k_st_33 : strOfT Tryd.prog 33 = false := by kernel_rfl
@[go_sem] theorem k_ik_33 : intOfT Tryd.prog 33 = none := by kernel_rfl
@[go_sem] theorem k_by_33 : bytesOfT Tryd.prog 33 = 8 := by kernel_rfl
@[go_sem] theorem k_el_33 : elemOf Tryd.prog 33 = none := by kernel_rfl
@[go_sem] theorem k_ze_33 : zeroOf Tryd.prog 33 = some [.nilFunc] := by kernel_rfl
@[go_sem] theorem k_sz_34 : szOf Tryd.prog 34 = some 1 := by kernel_rfl
@[go_sem] theorem k_nz_34 : nzOf Tryd.prog 34 = true := by kernel_rfl
@[go_sem] theorem k_ag_34 : aggOf Tryd.prog 34 = some false := by kernel_rfl
@[go_sem] theorem k_us_34 : (Tryd.prog.underlying 34).isSome = true := by kernel_rfl
@[go_sem] theorem k_cc_34 : concreteT Tryd.prog 34 = true := by kernel_rfl
@[go_sem] theorem k_st_34 : strOfT Tryd.prog 34 = false := by kernel_rfl
@[go_sem] theorem k_ik_34 : intOfT Tryd.prog 34 = none := by kernel_rfl
@[go_sem] theorem k_by_34 : bytesOfT Tryd.prog 34 = 8 := by kernel_rfl
@[go_sem] theorem k_el_34 : elemOf Tryd.prog 34 = none := by kernel_rfl
@[go_sem] theorem k_ze_34 : zeroOf Tryd.prog 34 = some [.nilFunc] := by kernel_rfl
@[go_sem] theorem k_sz_35 : szOf Tryd.prog 35 = some 1 := by kernel_rfl
@[go_sem] theorem k_nz_35 : nzOf Tryd.prog 35 = true := by kernel_rfl
@[go_sem] theorem k_ag_35 : aggOf Tryd.prog 35 = some false := by kernel_rfl
@[go_sem] theorem k_us_35 : (Tryd.prog.underlying 35).isSome = true := by kernel_rfl
@[go_sem] theorem k_cc_35 : concreteT Tryd.prog 35 = true := by kernel_rfl
@[go_sem] theorem k_st_35 : strOfT Tryd.prog 35 = false := by kernel_rfl
@[go_sem] theorem k_ik_35 : intOfT Tryd.prog 35 = none := by kernel_rfl
@[go_sem] theorem k_by_35 : bytesOfT Tryd.prog 35 = 0 := by kernel_rfl
@[go_sem] theorem k_el_35 : elemOf Tryd.prog 35 = none := by kernel_rfl
@[go_sem] theorem k_sz_36 : szOf Tryd.prog 36 = some 1 := by kernel_rfl
@[go_sem] theorem k_nz_36 : nzOf Tryd.prog 36 = true := by kernel_rfl
@[go_sem] theorem k_ag_36 : aggOf Tryd.prog 36 = some false := by kernel_rfl
@[go_sem] theorem k_us_36 : (Tryd.prog.underlying 36).isSome = true := by kernel_rfl
@[go_sem] theorem k_cc_36 : concreteT Tryd.prog 36 = true := by kernel_rfl
@[go_sem] theorem k_st_36 : strOfT Tryd.prog 36 = false := by kernel_rfl
@[go_sem] theorem k_ik_36 : intOfT Tryd.prog 36 = none := by kernel_rfl
@[go_sem] theorem k_by_36 : bytesOfT Tryd.prog 36 = 8 := by kernel_rfl
@[go_sem] theorem k_el_36 : elemOf Tryd.prog 36 = none := by kernel_rfl
@[go_sem] theorem k_ze_36 : zeroOf Tryd.prog 36 = some [.nilFunc] := by kernel_rfl
@[go_sem] theorem k_sz_37 : szOf Tryd.prog 37 = some 1 := by kernel_rfl
@[go_sem] theorem k_nz_37 : nzOf Tryd.prog 37 = true := by kernel_rfl
@[go_sem] theorem k_ag_37 : aggOf Tryd.prog 37 = some false := by kernel_rfl
@[go_sem] theorem k_us_37 : (Tryd.prog.underlying 37).isSome = true := by kernel_rfl
@[go_sem] theorem k_cc_37 : concreteT Tryd.prog 37 = true := by kernel_rfl
@[go_sem] theorem k_st_37 : strOfT Tryd.prog 37 = false := by kernel_rfl
@[go_sem] theorem k_ik_37 : intOfT Tryd.prog 37 = none := by kernel_rfl
@[go_sem] theorem k_by_37 : bytesOfT Tryd.prog 37 = 24 := by kernel_rfl
@[go_sem] theorem k_el_37 : elemOf Tryd.prog 37 = some 41 := by kernel_rfl
@[go_sem] theorem k_ze_37 : zeroOf Tryd.prog 37 = some [.slice none 0 0] := by kernel_rfl
@[go_sem] theorem k_sz_38 : szOf Tryd.prog 38 = some 2 := by kernel_rfl
@[go_sem] theorem k_nz_38 : nzOf Tryd.prog 38 = true := by kernel_rfl
@[go_sem] theorem k_ag_38 : aggOf Tryd.prog 38 = some true := by kernel_rfl
@[go_sem] theorem k_us_38 : (Tryd.prog.underlying 38).isSome = true := by kernel_rfl
@[go_sem] theorem k_cc_38 : concreteT Tryd.prog 38 = true := by kernel_rfl
@[go_sem] theorem k_st_38 : strOfT Tryd.prog 38 = false := by kernel_rfl
@[go_sem] theorem k_ik_38 : intOfT Tryd.prog 38 = none := by kernel_rfl
@[go_sem] theorem k_by_38 : bytesOfT Tryd.prog 38 = 32 := by kernel_rfl
@[go_sem] theorem k_el_38 : elemOf Tryd.prog 38 = none := by kernel_rfl
@[go_sem] theorem k_ze_38 : zeroOf Tryd.prog 38 = some [.slice none 0 0, .int .i64 0] := by kernel_rfl
@[go_sem] theorem k_fi_38_0 : fieldOf Tryd.prog 38 0 = some (0, 37) := by kernel_rfl
@[go_sem] theorem k_fi_38_1 : fieldOf Tryd.prog 38 1 = some (1, 3) := by kernel_rfl
@[go_sem] theorem k_pl_38 : placesOf Tryd.prog 38 = some [(0, 1), (1, 1)] := by kernel_rfl
@[go_sem] theorem k_sz_39 : szOf Tryd.prog 39 = some 2 := by kernel_rfl
@[go_sem] theorem k_nz_39 : nzOf Tryd.prog 39 = true := by kernel_rfl
@[go_sem] theorem k_ag_39 : aggOf Tryd.prog 39 = some true := by kernel_rfl
@[go_sem] theorem k_us_39 : (Tryd.prog.underlying 39).isSome = true := by kernel_rfl
@[go_sem] theorem k_cc_39 : concreteT Tryd.prog 39 = true := by kernel_rfl
@[go_sem] theorem k_st_39 : strOfT Tryd.prog 39 = false := by kernel_rfl
@[go_sem] theorem k_ik_39 : intOfT Tryd.prog 39 = none := by kernel_rfl
@[go_sem] theorem k_by_39 : bytesOfT Tryd.prog 39 = 32 := by kernel_rfl
@[go_sem] theorem k_el_39 : elemOf Tryd.prog 39 = none := by kernel_rfl
@[go_sem] theorem k_ze_39 : zeroOf Tryd.prog 39 = some [.slice none 0 0, .int .i64 0] := by kernel_rfl
@[go_sem] theorem k_fi_39_0 : fieldOf Tryd.prog 39 0 = some (0, 37) := by kernel_rfl
@[go_sem] theorem k_fi_39_1 : fieldOf Tryd.prog 39 1 = some (1, 3) := by kernel_rfl
@[go_sem] theorem k_pl_39 : placesOf Tryd.prog 39 = some [(0, 1), (1, 1)] := by kernel_rfl
@[go_sem] theorem k_sz_40 : szOf Tryd.prog 40 = some 2 := by kernel_rfl
@[go_sem] theorem k_nz_40 : nzOf Tryd.prog 40 = true := by kernel_rfl
@[go_sem] theorem k_ag_40 : aggOf Tryd.prog 40 = some true := by kernel_rfl
@[go_sem] theorem k_us_40 : (Tryd.prog.underlying 40).isSome = true := by kernel_rfl
@[go_sem] theorem k_cc_40 : concreteT Tryd.prog 40 = true := by kernel_rfl
@[go_sem] theorem k_st_40 : strOfT Tryd.prog 40 = false := by kernel_rfl
@[go_sem] theorem k_ik_40 : intOfT Tryd.prog 40 = none := by kernel_rfl
@[go_sem] theorem k_by_40 : bytesOfT Tryd.prog 40 = 16 := by kernel_rfl
@[go_sem] theorem k_el_40 : elemOf Tryd.prog 40 = none := by kernel_rfl
@[go_sem] theorem k_ze_40 : zeroOf Tryd.prog 40 = some [.int .i64 0, .int .i64 0] := by kernel_rfl
@[go_sem] theorem k_fi_40_0 : fieldOf Tryd.prog 40 0 = some (0, 3) := by kernel_rfl
@[go_sem] theorem k_fi_40_1 : fieldOf Tryd.prog 40 1 = some (1, 3) := by kernel_rfl
@[go_sem] theorem k_pl_40 : placesOf Tryd.prog 40 = some [(0, 1), (1, 1)] := by kernel_rfl
@[go_sem] theorem k_sz_41 : szOf Tryd.prog 41 = some 2 := by kernel_rfl
@[go_sem] theorem k_nz_41 : nzOf Tryd.prog 41 = true := by kernel_rfl
@[go_sem] theorem k_ag_41 : aggOf Tryd.prog 41 = some true := by kernel_rfl
@[go_sem] theorem k_us_41 : (Tryd.prog.underlying 41).isSome = true := by kernel_rfl
@[go_sem] theorem k_cc_41 : concreteT Tryd.prog 41 = true := by kernel_rfl
@[go_sem] theorem k_st_41 : strOfT Tryd.prog 41 = false := by kernel_rfl
@[go_sem] theorem k_ik_41 : intOfT Tryd.prog 41 = none := by kernel_rfl
@[go_sem] theorem k_by_41 : bytesOfT Tryd.prog 41 = 16 := by kernel_rfl
@[go_sem] theorem k_el_41 : elemOf Tryd.prog 41 = none := by kernel_rfl
@[go_sem] theorem k_ze_41 : zeroOf Tryd.prog 41 = some [.int .i64 0, .int .i64 0] := by kernel_rfl
@[go_sem] theorem k_fi_41_0 : fieldOf Tryd.prog 41 0 = some (0, 3) := by kernel_rfl
@[go_sem] theorem k_fi_41_1 : fieldOf Tryd.prog 41 1 = some (1, 3) := by kernel_rfl
@[go_sem] theorem k_pl_41 : placesOf Tryd.prog 41 = some [(0, 1), (1, 1)] := by kernel_rfl
@[go_sem] theorem k_sz_42 : szOf Tryd.prog 42 = some 1 := by kernel_rfl
@[go_sem] theorem k_nz_42 : nzOf Tryd.prog 42 = true := by kernel_rfl
@[go_sem] theorem k_ag_42 : aggOf Tryd.prog 42 = some false := by kernel_rfl
@[go_sem] theorem k_us_42 : (Tryd.prog.underlying 42).isSome = true := by kernel_rfl
@[go_sem] theorem k_cc_42 : concreteT Tryd.prog 42 = true := by kernel_rfl
@[go_sem] theorem k_st_42 : strOfT Tryd.prog 42 = false := by kernel_rfl
@[go_sem] theorem k_ik_42 : intOfT Tryd.prog 42 = some .i64 := by kernel_rfl
@[go_sem] theorem k_by_42 : bytesOfT Tryd.prog 42 = 8 := by kernel_rfl
@[go_sem] theorem k_el_42 : elemOf Tryd.prog 42 = none := by kernel_rfl
@[go_sem] theorem k_ze_42 : zeroOf Tryd.prog 42 = some [.int .i64 0] := by kernel_rfl
@[go_sem] theorem k_sz_43 : szOf Tryd.prog 43 = some 1 := by kernel_rfl
@[go_sem] theorem k_nz_43 : nzOf Tryd.prog 43 = true := by kernel_rfl
@[go_sem] theorem k_ag_43 : aggOf Tryd.prog 43 = some false := by kernel_rfl
@[go_sem] theorem k_us_43 : (Tryd.prog.underlying 43).isSome = true := by kernel_rfl
@[go_sem] theorem k_cc_43 : concreteT Tryd.prog 43 = true := by kernel_rfl
@[go_sem] theorem k_st_43 : strOfT Tryd.prog 43 = false := by kernel_rfl
@[go_sem] theorem k_ik_43 : intOfT Tryd.prog 43 = none := by kernel_rfl
@[go_sem] theorem k_by_43 : bytesOfT Tryd.prog 43 = 8 := by kernel_rfl
@[go_sem] theorem k_el_43 : elemOf Tryd.prog 43 = none := by kernel_rfl
@[go_sem] theorem k_ze_43 : zeroOf Tryd.prog 43 = some [.nilFunc] := by kernel_rfl
@[go_sem] theorem k_sz_44 : szOf Tryd.prog 44 = some 1 := by kernel_rfl
@[go_sem] theorem k_nz_44 : nzOf Tryd.prog 44 = true := by kernel_rfl
@[go_sem] theorem k_ag_44 : aggOf Tryd.prog 44 = some false := by kernel_rfl
@[go_sem] theorem k_us_44 : (Tryd.prog.underlying 44).isSome = true := by kernel_rfl
@[go_sem] theorem k_cc_44 : concreteT Tryd.prog 44 = true := by kernel_rfl
@[go_sem] theorem k_st_44 : strOfT Tryd.prog 44 = false := by kernel_rfl
@[go_sem] theorem k_ik_44 : intOfT Tryd.prog 44 = none := by kernel_rfl
@[go_sem] theorem k_by_44 : bytesOfT Tryd.prog 44 = 8 := by kernel_rfl
@[go_sem] theorem k_el_44 : elemOf Tryd.prog 44 = none := by kernel_rfl
@[go_sem] theorem k_ze_44 : zeroOf Tryd.prog 44 = some [.nilFunc] := by kernel_rfl
@[go_sem] theorem k_sz_45 : szOf Tryd.prog 45 = some 2 := by kernel_rfl
@[go_sem] theorem k_nz_45 : nzOf Tryd.prog 45 = true := by kernel_rfl
@[go_sem] theorem k_ag_45 : aggOf Tryd.prog 45 = some true := by kernel_rfl
@[go_sem] theorem k_us_45 : (Tryd.prog.underlying 45).isSome = true := by kernel_rfl
@[go_sem] theorem k_cc_45 : concreteT Tryd.prog 45 = true := by kernel_rfl
@[go_sem] theorem k_st_45 : strOfT Tryd.prog 45 = false := by kernel_rfl
@[go_sem] theorem k_ik_45 : intOfT Tryd.prog 45 = none := by kernel_rfl
@[go_sem] theorem k_by_45 : bytesOfT Tryd.prog 45 = 16 := by kernel_rfl
@[go_sem] theorem k_el_45 : elemOf Tryd.prog 45 = none := by kernel_rfl
@[go_sem] theorem k_ze_45 : zeroOf Tryd.prog 45 = some [.int .i64 0, .int .i64 0] := by kernel_rfl
@[go_sem] theorem k_fi_45_0 : fieldOf Tryd.prog 45 0 = some (0, 3) := by kernel_rfl
@[go_sem] theorem k_fi_45_1 : fieldOf Tryd.prog 45 1 = some (1, 3) := by kernel_rfl
@[go_sem] theorem k_pl_45 : placesOf Tryd.prog 45 = some [(0, 1), (1, 1)] := by kernel_rfl
@[go_sem] theorem k_sz_46 : szOf Tryd.prog 46 = some 2 := by kernel_rfl
@[go_sem] theorem k_nz_46 : nzOf Tryd.prog 46 = true := by kernel_rfl
@[go_sem] theorem k_ag_46 : aggOf Tryd.prog 46 = some true := by kernel_rfl
@[go_sem] theorem k_us_46 : (Tryd.prog.underlying 46).isSome = true := by kernel_rfl
@[go_sem] theorem k_cc_46 : concreteT Tryd.prog 46 = true := by kernel_rfl
@[go_sem] theorem k_st_46 : strOfT Tryd.prog 46 = false := by kernel_rfl
@[go_sem] theorem k_ik_46 : intOfT Tryd.prog 46 = none := by kernel_rfl
@[go_sem] theorem k_by_46 : bytesOfT Tryd.prog 46 = 16 := by kernel_rfl
@[go_sem] theorem k_el_46 : elemOf Tryd.prog 46 = none := by kernel_rfl
@[go_sem] theorem k_ze_46 : zeroOf Tryd.prog 46 = some [.int .i64 0, .int .i64 0] := by kernel_rfl
@[go_sem] theorem k_fi_46_0 : fieldOf Tryd.prog 46 0 = some (0, 3) := by kernel_rfl
@[go_sem] theorem k_fi_46_1 : fieldOf Tryd.prog 46 1 = some (1, 3) := by kernel_rfl
@[go_sem] theorem k_pl_46 : placesOf Tryd.prog 46 = some [(0, 1), (1, 1)] := by kernel_rfl
@[go_sem] theorem k_sz_47 : szOf Tryd.prog 47 = some 1 := by kernel_rfl
@[go_sem] theorem k_nz_47 : nzOf Tryd.prog 47 = true := by kernel_rfl
@[go_sem] theorem k_ag_47 : aggOf Tryd.prog 47 = some false := by kernel_rfl
@[go_sem] theorem k_us_47 : (Tryd.prog.underlying 47).isSome = true := by kernel_rfl
@[go_sem] theorem k_cc_47 : concreteT Tryd.prog 47 = true := by kernel_rfl
@[go_sem] theorem k_st_47 : strOfT Tryd.prog 47 = false := by kernel_rfl
@[go_sem] theorem k_ik_47 : intOfT Tryd.prog 47 = none := by kernel_rfl
@[go_sem] theorem k_by_47 : bytesOfT Tryd.prog 47 = 24 := by kernel_rfl
@[go_sem] theorem k_el_47 : elemOf Tryd.prog 47 = some 46 := by kernel_rfl
@[go_sem] theorem k_ze_47 : zeroOf Tryd.prog 47 = some [.slice none 0 0] := by kernel_rfl
@[go_sem] theorem k_sz_48 : szOf Tryd.prog 48 = some 2 := by kernel_rfl
@[go_sem] theorem k_nz_48 : nzOf Tryd.prog 48 = true := by kernel_rfl
@[go_sem] theorem k_ag_48 : aggOf Tryd.prog 48 = some true := by kernel_rfl
@[go_sem] theorem k_us_48 : (Tryd.prog.underlying 48).isSome = true := by kernel_rfl
@[go_sem] theorem k_cc_48 : concreteT Tryd.prog 48 = true := by kernel_rfl
@[go_sem] theorem k_st_48 : strOfT Tryd.prog 48 = false := by kernel_rfl
@[go_sem] theorem k_ik_48 : intOfT Tryd.prog 48 = none := by kernel_rfl
@[go_sem] theorem k_by_48 : bytesOfT Tryd.prog 48 = 32 := by kernel_rfl
@[go_sem] theorem k_el_48 : elemOf Tryd.prog 48 = none := by kernel_rfl
@[go_sem] theorem k_ze_48 : zeroOf Tryd.prog 48 = some [.int .i64 0, .slice none 0 0] := by kernel_rfl
@[go_sem] theorem k_fi_48_0 : fieldOf Tryd.prog 48 0 = some (0, 3) := by kernel_rfl
@[go_sem] theorem k_fi_48_1 : fieldOf Tryd.prog 48 1 = some (1, 47) := by kernel_rfl
@[go_sem] theorem k_pl_48 : placesOf Tryd.prog 48 = some [(0, 1), (1, 1)] := by kernel_rfl
@[go_sem] theorem k_sz_49 : szOf Tryd.prog 49 = some 2 := by kernel_rfl
@[go_sem] theorem k_nz_49 : nzOf Tryd.prog 49 = true := by kernel_rfl
@[go_sem] theorem k_ag_49 : aggOf Tryd.prog 49 = some true := by kernel_rfl
@[go_sem] theorem k_us_49 : (Tryd.prog.underlying 49).isSome = true := by kernel_rfl
@[go_sem] theorem k_cc_49 : concreteT Tryd.prog 49 = true := by kernel_rfl
@[go_sem] theorem k_st_49 : strOfT Tryd.prog 49 = false := by kernel_rfl
@[go_sem] theorem k_ik_49 : intOfT Tryd.prog 49 = none := by kernel_rfl
@[go_sem] theorem k_by_49 : bytesOfT Tryd.prog 49 = 32 := by kernel_rfl
@[go_sem] theorem k_el_49 : elemOf Tryd.prog 49 = none := by kernel_rfl
@[go_sem] theorem k_ze_49 : zeroOf Tryd.prog 49 = some [.int .i64 0, .slice none 0 0] := by kernel_rfl
@[go_sem] theorem k_fi_49_0 : fieldOf Tryd.prog 49 0 = some (0, 3) := by kernel_rfl
@[go_sem] theorem k_fi_49_1 : fieldOf Tryd.prog 49 1 = some (1, 47) := by kernel_rfl
@[go_sem] theorem k_pl_49 : placesOf Tryd.prog 49 = some [(0, 1), (1, 1)] := by kernel_rfl
@[go_sem] theorem k_sz_50 : szOf Tryd.prog 50 = some 1 := by kernel_rfl
@[go_sem] theorem k_nz_50 : nzOf Tryd.prog 50 = true := by kernel_rfl
@[go_sem] theorem k_ag_50 : aggOf Tryd.prog 50 = some false := by kernel_rfl
@[go_sem] theorem k_us_50 : (Tryd.prog.underlying 50).isSome = true := by kernel_rfl
@[go_sem] theorem k_cc_50 : concreteT Tryd.prog 50 = true := by kernel_rfl
@[go_sem] theorem k_st_50 : strOfT Tryd.prog 50 = false := by kernel_rfl
@[go_sem] theorem k_ik_50 : intOfT Tryd.prog 50 = none := by kernel_rfl
@[go_sem] theorem k_by_50 : bytesOfT Tryd.prog 50 = 8 := by kernel_rfl
@[go_sem] theorem k_el_50 : elemOf Tryd.prog 50 = none := by kernel_rfl
@[go_sem] theorem k_ze_50 : zeroOf Tryd.prog 50 = some [.nilFunc] := by kernel_rfl
@[go_sem] theorem k_sz_51 : szOf Tryd.prog 51 = some 1 := by kernel_rfl
@[go_sem] theorem k_nz_51 : nzOf Tryd.prog 51 = true := by kernel_rfl
@[go_sem] theorem k_ag_51 : aggOf Tryd.prog 51 = some false := by kernel_rfl
@[go_sem] theorem k_us_51 : (Tryd.prog.underlying 51).isSome = true := by kernel_rfl
@[go_sem] theorem k_cc_51 : concreteT Tryd.prog 51 = true := by kernel_rfl
@[go_sem] theorem k_st_51 : strOfT Tryd.prog 51 = false := by kernel_rfl
@[go_sem] theorem k_ik_51 : intOfT Tryd.prog 51 = none := by kernel_rfl
@[go_sem] theorem k_by_51 : bytesOfT Tryd.prog 51 = 8 := by kernel_rfl
@[go_sem] theorem k_el_51 : elemOf Tryd.prog 51 = none := by kernel_rfl
@[go_sem] theorem k_ze_51 : zeroOf Tryd.prog 51 = some [.pointer none] := by kernel_rfl
@[go_sem] theorem k_sz_52 : szOf Tryd.prog 52 = some 2 := by kernel_rfl
@[go_sem] theorem k_nz_52 : nzOf Tryd.prog 52 = true := by kernel_rfl
@[go_sem] theorem k_ag_52 : aggOf Tryd.prog 52 = some true := by kernel_rfl
@[go_sem] theorem k_us_52 : (Tryd.prog.underlying 52).isSome = true := by kernel_rfl
@[go_sem] theorem k_cc_52 : concreteT Tryd.prog 52 = true := by kernel_rfl
@[go_sem] theorem k_st_52 : strOfT Tryd.prog 52 = false := by kernel_rfl
@[go_sem] theorem k_ik_52 : intOfT Tryd.prog 52 = none := by kernel_rfl
@[go_sem] theorem k_by_52 : bytesOfT Tryd.prog 52 = 24 := by kernel_rfl
@[go_sem] theorem k_el_52 : elemOf Tryd.prog 52 = none := by kernel_rfl
@[go_sem] theorem k_ze_52 : zeroOf Tryd.prog 52 = some [.int .i64 0, .nilIface] := by kernel_rfl
@[go_sem] theorem k_fi_52_0 : fieldOf Tryd.prog 52 0 = some (0, 3) := by kernel_rfl
@[go_sem] theorem k_fi_52_1 : fieldOf Tryd.prog 52 1 = some (1, 27) := by kernel_rfl
@[go_sem] theorem k_pl_52 : placesOf Tryd.prog 52 = some [(0, 1), (1, 1)] := by kernel_rfl
@[go_sem] theorem k_sz_53 : szOf Tryd.prog 53 = some 2 := by kernel_rfl
@[go_sem] theorem k_nz_53 : nzOf Tryd.prog 53 = true := by kernel_rfl
@[go_sem] theorem k_ag_53 : aggOf Tryd.prog 53 = some true := by kernel_rfl
@[go_sem] theorem k_us_53 : (Tryd.prog.underlying 53).isSome = true := by kernel_rfl
@[go_sem] theorem k_cc_53 : concreteT Tryd.prog 53 = true := by kernel_rfl
@[go_sem] theorem k_st_53 : strOfT Tryd.prog 53 = false := by kernel_rfl
@[go_sem] theorem k_ik_53 : intOfT Tryd.prog 53 = none := by kernel_rfl
@[go_sem] theorem k_by_53 : bytesOfT Tryd.prog 53 = 24 := by kernel_rfl
@[go_sem] theorem k_el_53 : elemOf Tryd.prog 53 = none := by kernel_rfl
@[go_sem] theorem k_ze_53 : zeroOf Tryd.prog 53 = some [.int .i64 0, .nilIface] := by kernel_rfl
@[go_sem] theorem k_fi_53_0 : fieldOf Tryd.prog 53 0 = some (0, 3) := by kernel_rfl
@[go_sem] theorem k_fi_53_1 : fieldOf Tryd.prog 53 1 = some (1, 27) := by kernel_rfl
@[go_sem] theorem k_pl_53 : placesOf Tryd.prog 53 = some [(0, 1), (1, 1)] := by kernel_rfl
@[go_sem] theorem k_sz_54 : szOf Tryd.prog 54 = some 1 := by kernel_rfl
@[go_sem] theorem k_nz_54 : nzOf Tryd.prog 54 = true := by kernel_rfl
@[go_sem] theorem k_ag_54 : aggOf Tryd.prog 54 = some false := by kernel_rfl
@[go_sem] theorem k_us_54 : (Tryd.prog.underlying 54).isSome = true := by kernel_rfl
@[go_sem] theorem k_cc_54 : concreteT Tryd.prog 54 = true := by kernel_rfl
@[go_sem] theorem k_st_54 : strOfT Tryd.prog 54 = false := by kernel_rfl
@[go_sem] theorem k_ik_54 : intOfT Tryd.prog 54 = none := by kernel_rfl
@[go_sem] theorem k_by_54 : bytesOfT Tryd.prog 54 = 8 := by kernel_rfl
@[go_sem] theorem k_el_54 : elemOf Tryd.prog 54 = none := by kernel_rfl
@[go_sem] theorem k_ze_54 : zeroOf Tryd.prog 54 = some [.nilFunc] := by kernel_rfl
@[go_sem] theorem k_sz_55 : szOf Tryd.prog 55 = some 1 := by kernel_rfl
@[go_sem] theorem k_nz_55 : nzOf Tryd.prog 55 = true := by kernel_rfl
@[go_sem] theorem k_ag_55 : aggOf Tryd.prog 55 = some false := by kernel_rfl
@[go_sem] theorem k_us_55 : (Tryd.prog.underlying 55).isSome = true := by kernel_rfl
@[go_sem] theorem k_cc_55 : concreteT Tryd.prog 55 = true := by kernel_rfl
@[go_sem] theorem k_st_55 : strOfT Tryd.prog 55 = false := by kernel_rfl
@[go_sem] theorem k_ik_55 : intOfT Tryd.prog 55 = none := by kernel_rfl
@[go_sem] theorem k_by_55 : bytesOfT Tryd.prog 55 = 0 := by kernel_rfl
@[go_sem] theorem k_el_55 : elemOf Tryd.prog 55 = none := by kernel_rfl
@[go_sem] theorem k_sz_56 : szOf Tryd.prog 56 = some 1 := by kernel_rfl
@[go_sem] theorem k_nz_56 : nzOf Tryd.prog 56 = true := by kernel_rfl
@[go_sem] theorem k_ag_56 : aggOf Tryd.prog 56 = some false := by kernel_rfl
@[go_sem] theorem k_us_56 : (Tryd.prog.underlying 56).isSome = true := by kernel_rfl
@[go_sem] theorem k_cc_56 : concreteT Tryd.prog 56 = true := by kernel_rfl
@[go_sem] theorem k_st_56 : strOfT Tryd.prog 56 = false := by kernel_rfl
@[go_sem] theorem k_ik_56 : intOfT Tryd.prog 56 = none := by kernel_rfl
@[go_sem] theorem k_by_56 : bytesOfT Tryd.prog 56 = 8 := by kernel_rfl
@[go_sem] theorem k_el_56 : elemOf Tryd.prog 56 = none := by kernel_rfl
@[go_sem] theorem k_ze_56 : zeroOf Tryd.prog 56 = some [.nilFunc] := by kernel_rfl
@[go_sem] theorem k_sz_57 : szOf Tryd.prog 57 = some 1 := by kernel_rfl
@[go_sem] theorem k_nz_57 : nzOf Tryd.prog 57 = true := by kernel_rfl
@[go_sem] theorem k_ag_57 : aggOf Tryd.prog 57 = some false := by kernel_rfl
@[go_sem] theorem k_us_57 : (Tryd.prog.underlying 57).isSome = true := by kernel_rfl
@[go_sem] theorem k_cc_57 : concreteT Tryd.prog 57 = true := by kernel_rfl
@[go_sem] theorem k_st_57 : strOfT Tryd.prog 57 = false := by kernel_rfl
@[go_sem] theorem k_ik_57 : intOfT Tryd.prog 57 = none := by kernel_rfl
@[go_sem] theorem k_by_57 : bytesOfT Tryd.prog 57 = 8 := by kernel_rfl
@[go_sem] theorem k_el_57 : elemOf Tryd.prog 57 = none := by kernel_rfl
@[go_sem] theorem k_ze_57 : zeroOf Tryd.prog 57 = some [.nilFunc] := by kernel_rfl
@[go_sem] theorem k_sz_58 : szOf Tryd.prog 58 = some 1 := by kernel_rfl
@[go_sem] theorem k_nz_58 : nzOf Tryd.prog 58 = true := by kernel_rfl
@[go_sem] theorem k_ag_58 : aggOf Tryd.prog 58 = some false := by kernel_rfl
@[go_sem] theorem k_us_58 : (Tryd.prog.underlying 58).isSome = true := by kernel_rfl
@[go_sem] theorem k_cc_58 : concreteT Tryd.prog 58 = true := by kernel_rfl
@[go_sem] theorem k_st_58 : strOfT Tryd.prog 58 = false := by kernel_rfl
@[go_sem] theorem k_ik_58 : intOfT Tryd.prog 58 = none := by kernel_rfl
@[go_sem] theorem k_by_58 : bytesOfT Tryd.prog 58 = 0 := by kernel_rfl
@[go_sem] theorem k_el_58 : elemOf Tryd.prog 58 = none := by kernel_rfl
@[go_sem] theorem k_sz_59 : szOf Tryd.prog 59 = some 1 := by kernel_rfl
@[go_sem] theorem k_nz_59 : nzOf Tryd.prog 59 = true := by kernel_rfl
@[go_sem] theorem k_ag_59 : aggOf Tryd.prog 59 = some false := by kernel_rfl
@[go_sem] theorem k_us_59 : (Tryd.prog.underlying 59).isSome = true := by kernel_rfl
@[go_sem] theorem k_cc_59 : concreteT Tryd.prog 59 = true := by kernel_rfl
@[go_sem] theorem k_st_59 : strOfT Tryd.prog 59 = false := by kernel_rfl
@[go_sem] theorem k_ik_59 : intOfT Tryd.prog 59 = none := by kernel_rfl
@[go_sem] theorem k_by_59 : bytesOfT Tryd.prog 59 = 8 := by kernel_rfl
@[go_sem] theorem k_el_59 : elemOf Tryd.prog 59 = none := by kernel_rfl
@[go_sem] theorem k_ze_59 : zeroOf Tryd.prog 59 = some [.nilFunc] := by kernel_rfl
@[go_sem] theorem k_sz_60 : szOf Tryd.prog 60 = some 1 := by kernel_rfl
@[go_sem] theorem k_nz_60 : nzOf Tryd.prog 60 = true := by kernel_rfl
@[go_sem] theorem k_ag_60 : aggOf Tryd.prog 60 = some false := by kernel_rfl
@[go_sem] theorem k_us_60 : (Tryd.prog.underlying 60).isSome = true := by kernel_rfl
@[go_sem] theorem k_cc_60 : concreteT Tryd.prog 60 = true := by kernel_rfl
@[go_sem] theorem k_st_60 : strOfT Tryd.prog 60 = false := by kernel_rfl
@[go_sem] theorem k_ik_60 : intOfT Tryd.prog 60 = none := by kernel_rfl
@[go_sem] theorem k_by_60 : bytesOfT Tryd.prog 60 = 8 := by kernel_rfl
@[go_sem] theorem k_el_60 : elemOf Tryd.prog 60 = none := by kernel_rfl
@[go_sem] theorem k_ze_60 : zeroOf Tryd.prog 60 = some [.nilFunc] := by kernel_rfl
@[go_sem] theorem k_sz_61 : szOf Tryd.prog 61 = some 1 := by kernel_rfl
@[go_sem] theorem k_nz_61 : nzOf Tryd.prog 61 = true := by kernel_rfl
@[go_sem] theorem k_ag_61 : aggOf Tryd.prog 61 = some false := by kernel_rfl
@[go_sem] theorem k_us_61 : (Tryd.prog.underlying 61).isSome = true := by kernel_rfl
@[go_sem] theorem k_cc_61 : concreteT Tryd.prog 61 = true := by kernel_rfl
@[go_sem] theorem k_st_61 : strOfT Tryd.prog 61 = false := by kernel_rfl
@[go_sem] theorem k_ik_61 : intOfT Tryd.prog 61 = none := by kernel_rfl
@[go_sem] theorem k_by_61 : bytesOfT Tryd.prog 61 = 8 := by kernel_rfl
@[go_sem] theorem k_el_61 : elemOf Tryd.prog 61 = none := by kernel_rfl
@[go_sem] theorem k_ze_61 : zeroOf Tryd.prog 61 = some [.nilFunc] := by kernel_rfl
@[go_sem] theorem k_sz_62 : szOf Tryd.prog 62 = some 1 := by kernel_rfl
@[go_sem] theorem k_nz_62 : nzOf Tryd.prog 62 = true := by kernel_rfl
@[go_sem] theorem k_ag_62 : aggOf Tryd.prog 62 = some false := by kernel_rfl
@[go_sem] theorem k_us_62 : (Tryd.prog.underlying 62).isSome = true := by kernel_rfl
@[go_sem] theorem k_cc_62 : concreteT Tryd.prog 62 = true := by kernel_rfl
@[go_sem] theorem k_st_62 : strOfT Tryd.prog 62 = false := by kernel_rfl
@[go_sem] theorem k_ik_62 : intOfT Tryd.prog 62 = none := by kernel_rfl
@[go_sem] theorem k_by_62 : bytesOfT Tryd.prog 62 = 8 := by kernel_rfl
@[go_sem] theorem k_el_62 : elemOf Tryd.prog 62 = none := by kernel_rfl
@[go_sem] theorem k_ze_62 : zeroOf Tryd.prog 62 = some [.nilFunc] := by kernel_rfl
@[go_sem] theorem k_sz_63 : szOf Tryd.prog 63 = some 1 := by kernel_rfl
@[go_sem] theorem k_nz_63 : nzOf Tryd.prog 63 = true := by kernel_rfl
@[go_sem] theorem k_ag_63 : aggOf Tryd.prog 63 = some false := by kernel_rfl
@[go_sem] theorem k_us_63 : (Tryd.prog.underlying 63).isSome = true := by kernel_rfl
@[go_sem] theorem k_cc_63 : concreteT Tryd.prog 63 = true := by kernel_rfl
@[go_sem] theorem k_st_63 : strOfT Tryd.prog 63 = false := by kernel_rfl
@[go_sem] theorem k_ik_63 : intOfT Tryd.prog 63 = none := by kernel_rfl
@[go_sem] theorem k_by_63 : bytesOfT Tryd.prog 63 = 8 := by kernel_rfl
@[go_sem] theorem k_el_63 : elemOf Tryd.prog 63 = none := by kernel_rfl
@[go_sem] theorem k_ze_63 : zeroOf Tryd.prog 63 = some [.nilFunc] := by kernel_rfl
@[go_sem] theorem k_sz_64 : szOf Tryd.prog 64 = some 1 := by kernel_rfl
@[go_sem] theorem k_nz_64 : nzOf Tryd.prog 64 = true := by kernel_rfl
@[go_sem] theorem k_ag_64 : aggOf Tryd.prog 64 = some false := by kernel_rfl
@[go_sem] theorem k_us_64 : (Tryd.prog.underlying 64).isSome = true := by kernel_rfl
@[go_sem] theorem k_cc_64 : concreteT Tryd.prog 64 = true := by kernel_rfl
@[go_sem] theorem k_st_64 : strOfT Tryd.prog 64 = false := by kernel_rfl
@[go_sem] theorem k_ik_64 : intOfT Tryd.prog 64 = none := by kernel_rfl
@[go_sem] theorem k_by_64 : bytesOfT Tryd.prog 64 = 8 := by kernel_rfl
@[go_sem] theorem k_el_64 : elemOf Tryd.prog 64 = none := by kernel_rfl
@[go_sem] theorem k_ze_64 : zeroOf Tryd.prog 64 = some [.pointer none] := by kernel_rfl
@[go_sem] theorem k_sz_65 : szOf Tryd.prog 65 = some 1 := by kernel_rfl
@[go_sem] theorem k_nz_65 : nzOf Tryd.prog 65 = true := by kernel_rfl
@[go_sem] theorem k_ag_65 : aggOf Tryd.prog 65 = some false := by kernel_rfl
@[go_sem] theorem k_us_65 : (Tryd.prog.underlying 65).isSome = true := by kernel_rfl
@[go_sem] theorem k_cc_65 : concreteT Tryd.prog 65 = true := by kernel_rfl
@[go_sem] theorem k_st_65 : strOfT Tryd.prog 65 = false := by kernel_rfl
@[go_sem] theorem k_ik_65 : intOfT Tryd.prog 65 = none := by kernel_rfl
@[go_sem] theorem k_by_65 : bytesOfT Tryd.prog 65 = 8 := by kernel_rfl
@[go_sem] theorem k_el_65 : elemOf Tryd.prog 65 = none := by kernel_rfl
@[go_sem] theorem k_ze_65 : zeroOf Tryd.prog 65 = some [.nilFunc] := by kernel_rfl
@[go_sem] theorem k_sz_66 : szOf Tryd.prog 66 = some 1 := by kernel_rfl
@[go_sem] theorem k_nz_66 : nzOf Tryd.prog 66 = true := by kernel_rfl
@[go_sem] theorem k_ag_66 : aggOf Tryd.prog 66 = some false := by kernel_rfl
@[go_sem] theorem k_us_66 : (Tryd.prog.underlying 66).isSome = true := by kernel_rfl
@[go_sem] theorem k_cc_66 : concreteT Tryd.prog 66 = true := by kernel_rfl
@[go_sem] theorem k_st_66 : strOfT Tryd.prog 66 = false := by kernel_rfl
@[go_sem] theorem k_ik_66 : intOfT Tryd.prog 66 = none := by kernel_rfl
@[go_sem] theorem k_by_66 : bytesOfT Tryd.prog 66 = 8 := by kernel_rfl
@[go_sem] theorem k_el_66 : elemOf Tryd.prog 66 = none := by kernel_rfl
@[go_sem] theorem k_ze_66 : zeroOf Tryd.prog 66 = some [.nilFunc] := by kernel_rfl
@[go_sem] theorem k_sz_67 : szOf Tryd.prog 67 = some 1 := by kernel_rfl
@[go_sem] theorem k_nz_67 : nzOf Tryd.prog 67 = true := by kernel_rfl
@[go_sem] theorem k_ag_67 : aggOf Tryd.prog 67 = some false := by kernel_rfl
@[go_sem] theorem k_us_67 : (Tryd.prog.underlying 67).isSome = true := by kernel_rfl
@[go_sem] theorem k_cc_67 : concreteT Tryd.prog 67 = true := by kernel_rfl
@[go_sem] theorem k_st_67 : strOfT Tryd.prog 67 = false := by kernel_rfl
@[go_sem] theorem k_ik_67 : intOfT Tryd.prog 67 = none := by kernel_rfl
@[go_sem] theorem k_by_67 : bytesOfT Tryd.prog 67 = 8 := by kernel_rfl
@[go_sem] theorem k_el_67 : elemOf Tryd.prog 67 = none := by kernel_rfl
@[go_sem] theorem k_ze_67 : zeroOf Tryd.prog 67 = some [.map none] := by kernel_rfl
@[go_sem] theorem k_sz_68 : szOf Tryd.prog 68 = some 1 := by kernel_rfl
@[go_sem] theorem k_nz_68 : nzOf Tryd.prog 68 = true := by kernel_rfl
@[go_sem] theorem k_ag_68 : aggOf Tryd.prog 68 = some false := by kernel_rfl
@[go_sem] theorem k_us_68 : (Tryd.prog.underlying 68).isSome = true := by kernel_rfl
@[go_sem] theorem k_cc_68 : concreteT Tryd.prog 68 = true := by kernel_rfl
@[go_sem] theorem k_st_68 : strOfT Tryd.prog 68 = false := by kernel_rfl
@[go_sem] theorem k_ik_68 : intOfT Tryd.prog 68 = none := by kernel_rfl
@[go_sem] theorem k_by_68 : bytesOfT Tryd.prog 68 = 8 := by kernel_rfl
@[go_sem] theorem k_el_68 : elemOf Tryd.prog 68 = none := by kernel_rfl
@[go_sem] theorem k_ze_68 : zeroOf Tryd.prog 68 = some [.nilFunc] := by kernel_rfl
@[go_sem] theorem k_sz_69 : szOf Tryd.prog 69 = some 1 := by kernel_rfl
@[go_sem] theorem k_nz_69 : nzOf Tryd.prog 69 = true := by kernel_rfl
@[go_sem] theorem k_ag_69 : aggOf Tryd.prog 69 = some false := by kernel_rfl
@[go_sem] theorem k_us_69 : (Tryd.prog.underlying 69).isSome = true := by kernel_rfl
@[go_sem] theorem k_cc_69 : concreteT Tryd.prog 69 = true := by kernel_rfl
@[go_sem] theorem k_st_69 : strOfT Tryd.prog 69 = false := by kernel_rfl
@[go_sem] theorem k_ik_69 : intOfT Tryd.prog 69 = none := by kernel_rfl
@[go_sem] theorem k_by_69 : bytesOfT Tryd.prog 69 = 8 := by kernel_rfl
@[go_sem] theorem k_el_69 : elemOf Tryd.prog 69 = none := by kernel_rfl
@[go_sem] theorem k_ze_69 : zeroOf Tryd.prog 69 = some [.nilFunc] := by kernel_rfl
@[go_sem] theorem k_sz_70 : szOf Tryd.prog 70 = some 1 := by kernel_rfl
@[go_sem] theorem k_nz_70 : nzOf Tryd.prog 70 = true := by kernel_rfl
@[go_sem] theorem k_ag_70 : aggOf Tryd.prog 70 = some false := by kernel_rfl
@[go_sem] theorem k_us_70 : (Tryd.prog.underlying 70).isSome = true := by kernel_rfl
@[go_sem] theorem k_cc_70 : concreteT Tryd.prog 70 = true := by kernel_rfl
@[go_sem] theorem k_st_70 : strOfT Tryd.prog 70 = false := by kernel_rfl
@[go_sem] theorem k_ik_70 : intOfT Tryd.prog 70 = none := by kernel_rfl
@[go_sem] theorem k_by_70 : bytesOfT Tryd.prog 70 = 8 := by kernel_rfl
@[go_sem] theorem k_el_70 : elemOf Tryd.prog 70 = none := by kernel_rfl
@[go_sem] theorem k_ze_70 : zeroOf Tryd.prog 70 = some [.nilFunc] := by kernel_rfl
@[go_sem] theorem k_sz_71 : szOf Tryd.prog 71 = some 1 := by kernel_rfl
@[go_sem] theorem k_nz_71 : nzOf Tryd.prog 71 = true := by kernel_rfl
@[go_sem] theorem k_ag_71 : aggOf Tryd.prog 71 = some false := by kernel_rfl
@[go_sem] theorem k_us_71 : (Tryd.prog.underlying 71).isSome = true := by kernel_rfl
@[go_sem] theorem k_cc_71 : concreteT Tryd.prog 71 = true := by kernel_rfl
@[go_sem] theorem k_st_71 : strOfT Tryd.prog 71 = false := by kernel_rfl
@[go_sem] theorem k_ik_71 : intOfT Tryd.prog 71 = none := by kernel_rfl
@[go_sem] theorem k_by_71 : bytesOfT Tryd.prog 71 = 8 := by kernel_rfl
@[go_sem] theorem k_el_71 : elemOf Tryd.prog 71 = none := by kernel_rfl
@[go_sem] theorem k_ze_71 : zeroOf Tryd.prog 71 = some [.nilFunc] := by kernel_rfl
@[go_sem] theorem k_sz_72 : szOf Tryd.prog 72 = some 1 := by kernel_rfl
@[go_sem] theorem k_nz_72 : nzOf Tryd.prog 72 = true := by kernel_rfl
@[go_sem] theorem k_ag_72 : aggOf Tryd.prog 72 = some false := by kernel_rfl
@[go_sem] theorem k_us_72 : (Tryd.prog.underlying 72).isSome = true := by kernel_rfl
@[go_sem] theorem k_cc_72 : concreteT Tryd.prog 72 = true := by kernel_rfl
@[go_sem] theorem k_st_72 : strOfT Tryd.prog 72 = false := by kernel_rfl
@[go_sem] theorem k_ik_72 : intOfT Tryd.prog 72 = none := by kernel_rfl
@[go_sem] theorem k_by_72 : bytesOfT Tryd.prog 72 = 8 := by kernel_rfl
@[go_sem] theorem k_el_72 : elemOf Tryd.prog 72 = none := by kernel_rfl
@[go_sem] theorem k_ze_72 : zeroOf Tryd.prog 72 = some [.pointer none] := by kernel_rfl
@[go_sem] theorem k_sz_73 : szOf Tryd.prog 73 = some 1 := by kernel_rfl
@[go_sem] theorem k_nz_73 : nzOf Tryd.prog 73 = true := by kernel_rfl
@[go_sem] theorem k_ag_73 : aggOf Tryd.prog 73 = some false := by kernel_rfl
@[go_sem] theorem k_us_73 : (Tryd.prog.underlying 73).isSome = true := by kernel_rfl
@[go_sem] theorem k_cc_73 : concreteT Tryd.prog 73 = true := by kernel_rfl
@[go_sem] theorem k_st_73 : strOfT Tryd.prog 73 = false := by kernel_rfl
@[go_sem] theorem k_ik_73 : intOfT Tryd.prog 73 = some .u64 := by kernel_rfl
@[go_sem] theorem k_by_73 : bytesOfT Tryd.prog 73 = 8 := by kernel_rfl
@[go_sem] theorem k_el_73 : elemOf Tryd.prog 73 = none := by kernel_rfl
@[go_sem] theorem k_ze_73 : zeroOf Tryd.prog 73 = some [.int .u64 0] := by kernel_rfl
@[go_sem] theorem k_sz_74 : szOf Tryd.prog 74 = some 3 := by kernel_rfl
@[go_sem] theorem k_nz_74 : nzOf Tryd.prog 74 = true := by kernel_rfl
@[go_sem] theorem k_ag_74 : aggOf Tryd.prog 74 = some true := by kernel_rfl
@[go_sem] theorem k_us_74 : (Tryd.prog.underlying 74).isSome = true := by kernel_rfl
@[go_sem] theorem k_cc_74 : concreteT Tryd.prog 74 = true := by kernel_rfl
@[go_sem] theorem k_st_74 : strOfT Tryd.prog 74 = false := by kernel_rfl
@[go_sem] theorem k_ik_74 : intOfT Tryd.prog 74 = none := by kernel_rfl
@[go_sem] theorem k_by_74 : bytesOfT Tryd.prog 74 = 24 := by kernel_rfl
@[go_sem] theorem k_el_74 : elemOf Tryd.prog 74 = none := by kernel_rfl
@[go_sem] theorem k_ze_74 : zeroOf Tryd.prog 74 = some [.pointer none, .pointer none, .int .u64 0] := by kernel_rfl
@[go_sem] theorem k_fi_74_0 : fieldOf Tryd.prog 74 0 = some (0, 17) := by kernel_rfl
@[go_sem] theorem k_fi_74_1 : fieldOf Tryd.prog 74 1 = some (1, 72) := by kernel_rfl
@[go_sem] theorem k_fi_74_2 : fieldOf Tryd.prog 74 2 = some (2, 73) := by kernel_rfl
@[go_sem] theorem k_pl_74 : placesOf Tryd.prog 74 = some [(0, 1), (1, 1), (2, 1)] := by kernel_rfl
@[go_sem] theorem k_sz_75 : szOf Tryd.prog 75 = some 3 := by kernel_rfl
@[go_sem] theorem k_nz_75 : nzOf Tryd.prog 75 = true := by kernel_rfl
@[go_sem] theorem k_ag_75 : aggOf Tryd.prog 75 = some true := by kernel_rfl
@[go_sem] theorem k_us_75 : (Tryd.prog.underlying 75).isSome = true := by kernel_rfl
@[go_sem] theorem k_cc_75 : concreteT Tryd.prog 75 = true := by kernel_rfl
@[go_sem] theorem k_st_75 : strOfT Tryd.prog 75 = false := by kernel_rfl
@[go_sem] theorem k_ik_75 : intOfT Tryd.prog 75 = none := by kernel_rfl
@[go_sem] theorem k_by_75 : bytesOfT Tryd.prog 75 = 24 := by kernel_rfl
@[go_sem] theorem k_el_75 : elemOf Tryd.prog 75 = none := by kernel_rfl
@[go_sem] theorem k_ze_75 : zeroOf Tryd.prog 75 = some [.pointer none, .pointer none, .int .u64 0] := by kernel_rfl
@[go_sem] theorem k_fi_75_0 : fieldOf Tryd.prog 75 0 = some (0, 17) := by kernel_rfl
@[go_sem] theorem k_fi_75_1 : fieldOf Tryd.prog 75 1 = some (1, 72) := by kernel_rfl
@[go_sem] theorem k_fi_75_2 : fieldOf Tryd.prog 75 2 = some (2, 73) := by kernel_rfl
@[go_sem] theorem k_pl_75 : placesOf Tryd.prog 75 = some [(0, 1), (1, 1), (2, 1)] := by kernel_rfl
@[go_sem] theorem k_sz_76 : szOf Tryd.prog 76 = some 1 := by kernel_rfl
@[go_sem] theorem k_nz_76 : nzOf Tryd.prog 76 = true := by kernel_rfl
@[go_sem] theorem k_ag_76 : aggOf Tryd.prog 76 = some false := by kernel_rfl
@[go_sem] theorem k_us_76 : (Tryd.prog.underlying 76).isSome = true := by kernel_rfl
@[go_sem] theorem k_cc_76 : concreteT Tryd.prog 76 = true := by kernel_rfl
@[go_sem] theorem k_st_76 : strOfT Tryd.prog 76 = false := by kernel_rfl
@[go_sem] theorem k_ik_76 : intOfT Tryd.prog 76 = none := by kernel_rfl
@[go_sem] theorem k_by_76 : bytesOfT Tryd.prog 76 = 8 := by kernel_rfl
@[go_sem] theorem k_el_76 : elemOf Tryd.prog 76 = none := by kernel_rfl
@[go_sem] theorem k_ze_76 : zeroOf Tryd.prog 76 = some [.nilFunc] := by kernel_rfl
@[go_sem] theorem k_sz_77 : szOf Tryd.prog 77 = some 1 := by kernel_rfl
@[go_sem] theorem k_nz_77 : nzOf Tryd.prog 77 = true := by kernel_rfl
@[go_sem] theorem k_ag_77 : aggOf Tryd.prog 77 = some false := by kernel_rfl
@[go_sem] theorem k_us_77 : (Tryd.prog.underlying 77).isSome = true := by kernel_rfl
@[go_sem] theorem k_cc_77 : concreteT Tryd.prog 77 = false := by kernel_rfl
@[go_sem] theorem k_st_77 : strOfT Tryd.prog 77 = false := by kernel_rfl
@[go_sem] theorem k_ik_77 : intOfT Tryd.prog 77 = none := by kernel_rfl
@[go_sem] theorem k_by_77 : bytesOfT Tryd.prog 77 = 16 := by kernel_rfl
@[go_sem] theorem k_el_77 : elemOf Tryd.prog 77 = none := by kernel_rfl
@[go_sem] theorem k_ze_77 : zeroOf Tryd.prog 77 = some [.nilIface] := by kernel_rfl
@[go_sem] theorem k_sz_78 : szOf Tryd.prog 78 = some 1 := by kernel_rfl
@[go_sem] theorem k_nz_78 : nzOf Tryd.prog 78 = true := by kernel_rfl
@[go_sem] theorem k_ag_78 : aggOf Tryd.prog 78 = some false := by kernel_rfl
@[go_sem] theorem k_us_78 : (Tryd.prog.underlying 78).isSome = true := by kernel_rfl
@[go_sem] theorem k_cc_78 : concreteT Tryd.prog 78 = false := by kernel_rfl
@[go_sem] theorem k_st_78 : strOfT Tryd.prog 78 = false := by kernel_rfl
@[go_sem] theorem k_ik_78 : intOfT Tryd.prog 78 = none := by kernel_rfl
@[go_sem] theorem k_by_78 : bytesOfT Tryd.prog 78 = 16 := by kernel_rfl
@[go_sem] theorem k_el_78 : elemOf Tryd.prog 78 = none := by kernel_rfl
@[go_sem] theorem k_ze_78 : zeroOf Tryd.prog 78 = some [.nilIface] := by kernel_rfl
@[go_sem] theorem k_sz_79 : szOf Tryd.prog 79 = some 1 := by kernel_rfl
@[go_sem] theorem k_nz_79 : nzOf Tryd.prog 79 = true := by kernel_rfl
@[go_sem] theorem k_ag_79 : aggOf Tryd.prog 79 = some false := by kernel_rfl
@[go_sem] theorem k_us_79 : (Tryd.prog.underlying 79).isSome = true := by kernel_rfl
@[go_sem] theorem k_cc_79 : concreteT Tryd.prog 79 = true := by kernel_rfl
@[go_sem] theorem k_st_79 : strOfT Tryd.prog 79 = false := by kernel_rfl
@[go_sem] theorem k_ik_79 : intOfT Tryd.prog 79 = none := by kernel_rfl
@[go_sem] theorem k_by_79 : bytesOfT Tryd.prog 79 = 8 := by kernel_rfl
@[go_sem] theorem k_el_79 : elemOf Tryd.prog 79 = none := by kernel_rfl
@[go_sem] theorem k_ze_79 : zeroOf Tryd.prog 79 = some [.nilFunc] := by kernel_rfl
@[go_sem] theorem k_sz_80 : szOf Tryd.prog 80 = some 1 := by kernel_rfl
@[go_sem] theorem k_nz_80 : nzOf Tryd.prog 80 = true := by kernel_rfl
@[go_sem] theorem k_ag_80 : aggOf Tryd.prog 80 = some false := by kernel_rfl
@[go_sem] theorem k_us_80 : (Tryd.prog.underlying 80).isSome = true := by kernel_rfl
@[go_sem] theorem k_cc_80 : concreteT Tryd.prog 80 = true := by kernel_rfl
@[go_sem] theorem k_st_80 : strOfT Tryd.prog 80 = false := by kernel_rfl
@[go_sem] theorem k_ik_80 : intOfT Tryd.prog 80 = some .u8 := by kernel_rfl
@[go_sem] theorem k_by_80 : bytesOfT Tryd.prog 80 = 1 := by kernel_rfl
@[go_sem] theorem k_el_80 : elemOf Tryd.prog 80 = none := by kernel_rfl
@[go_sem] theorem k_ze_80 : zeroOf Tryd.prog 80 = some [.int .u8 0] := by kernel_rfl
@[go_sem] theorem k_sz_81 : szOf Tryd.prog 81 = some 1 := by kernel_rfl
@[go_sem] theorem k_nz_81 : nzOf Tryd.prog 81 = true := by kernel_rfl
@[go_sem] theorem k_ag_81 : aggOf Tryd.prog 81 = some false := by kernel_rfl
@[go_sem] theorem k_us_81 : (Tryd.prog.underlying 81).isSome = true := by kernel_rfl
@[go_sem] theorem k_cc_81 : concreteT Tryd.prog 81 = true := by kernel_rfl
@[go_sem] theorem k_st_81 : strOfT Tryd.prog 81 = false := by kernel_rfl
@[go_sem] theorem k_ik_81 : intOfT Tryd.prog 81 = none := by kernel_rfl
@[go_sem] theorem k_by_81 : bytesOfT Tryd.prog 81 = 8 := by kernel_rfl
@[go_sem] theorem k_el_81 : elemOf Tryd.prog 81 = none := by kernel_rfl
@[go_sem] theorem k_ze_81 : zeroOf Tryd.prog 81 = some [.nilFunc] := by kernel_rfl
@[go_sem] theorem k_sz_82 : szOf Tryd.prog 82 = some 1 := by kernel_rfl
@[go_sem] theorem k_nz_82 : nzOf Tryd.prog 82 = true := by kernel_rfl
@[go_sem] theorem k_ag_82 : aggOf Tryd.prog 82 = some false := by kernel_rfl
@[go_sem] theorem k_us_82 : (Tryd.prog.underlying 82).isSome = true := by kernel_rfl
@[go_sem] theorem k_cc_82 : concreteT Tryd.prog 82 = true := by kernel_rfl
@[go_sem] theorem k_st_82 : strOfT Tryd.prog 82 = false := by kernel_rfl
@[go_sem] theorem k_ik_82 : intOfT Tryd.prog 82 = none := by kernel_rfl
@[go_sem] theorem k_by_82 : bytesOfT Tryd.prog 82 = 8 := by kernel_rfl
@[go_sem] theorem k_el_82 : elemOf Tryd.prog 82 = none := by kernel_rfl
@[go_sem] theorem k_ze_82 : zeroOf Tryd.prog 82 = some [.nilFunc] := by kernel_rfl
@[go_sem] theorem k_sz_83 : szOf Tryd.prog 83 = some 1 := by kernel_rfl
@[go_sem] theorem k_nz_83 : nzOf Tryd.prog 83 = true := by kernel_rfl
@[go_sem] theorem k_ag_83 : aggOf Tryd.prog 83 = some false := by kernel_rfl
@[go_sem] theorem k_us_83 : (Tryd.prog.underlying 83).isSome = true := by kernel_rfl
@[go_sem] theorem k_cc_83 : concreteT Tryd.prog 83 = true := by kernel_rfl
@[go_sem] theorem k_st_83 : strOfT Tryd.prog 83 = false := by kernel_rfl
@[go_sem] theorem k_ik_83 : intOfT Tryd.prog 83 = none := by kernel_rfl
@[go_sem] theorem k_by_83 : bytesOfT Tryd.prog 83 = 8 := by kernel_rfl
@[go_sem] theorem k_el_83 : elemOf Tryd.prog 83 = none := by kernel_rfl
@[go_sem] theorem k_ze_83 : zeroOf Tryd.prog 83 = some [.nilFunc] := by kernel_rfl
@[go_sem] theorem k_sz_84 : szOf Tryd.prog 84 = some 1 := by kernel_rfl
@[go_sem] theorem k_nz_84 : nzOf Tryd.prog 84 = true := by kernel_rfl
@[go_sem] theorem k_ag_84 : aggOf Tryd.prog 84 = some false := by kernel_rfl
@[go_sem] theorem k_us_84 : (Tryd.prog.underlying 84).isSome = true := by kernel_rfl
@[go_sem] theorem k_cc_84 : concreteT Tryd.prog 84 = true := by kernel_rfl
@[go_sem] theorem k_st_84 : strOfT Tryd.prog 84 = false := by kernel_rfl
@[go_sem] theorem k_ik_84 : intOfT Tryd.prog 84 = none := by kernel_rfl
@[go_sem] theorem k_by_84 : bytesOfT Tryd.prog 84 = 8 := by kernel_rfl
@[go_sem] theorem k_el_84 : elemOf Tryd.prog 84 = none := by kernel_rfl
@[go_sem] theorem k_ze_84 : zeroOf Tryd.prog 84 = some [.nilFunc] := by kernel_rfl
@[go_sem] theorem k_sz_85 : szOf Tryd.prog 85 = some 1 := by kernel_rfl
@[go_sem] theorem k_nz_85 : nzOf Tryd.prog 85 = true := by kernel_rfl
@[go_sem] theorem k_ag_85 : aggOf Tryd.prog 85 = some false := by kernel_rfl
@[go_sem] theorem k_us_85 : (Tryd.prog.underlying 85).isSome = true := by kernel_rfl
@[go_sem] theorem k_cc_85 : concreteT Tryd.prog 85 = true := by kernel_rfl
@[go_sem] theorem k_st_85 : strOfT Tryd.prog 85 = false := by kernel_rfl
@[go_sem] theorem k_ik_85 : intOfT Tryd.prog 85 = none := by kernel_rfl
@[go_sem] theorem k_by_85 : bytesOfT Tryd.prog 85 = 8 := by kernel_rfl
@[go_sem] theorem k_el_85 : elemOf Tryd.prog 85 = none := by kernel_rfl
@[go_sem] theorem k_ze_85 : zeroOf Tryd.prog 85 = some [.nilFunc] := by kernel_rfl
@[go_sem] theorem k_sz_86 : szOf Tryd.prog 86 = some 1 := by kernel_rfl
@[go_sem] theorem k_nz_86 : nzOf Tryd.prog 86 = true := by kernel_rfl
@[go_sem] theorem k_ag_86 : aggOf Tryd.prog 86 = some false := by kernel_rfl
@[go_sem] theorem k_us_86 : (Tryd.prog.underlying 86).isSome = true := by kernel_rfl
@[go_sem] theorem k_cc_86 : concreteT Tryd.prog 86 = true := by kernel_rfl
@[go_sem] theorem k_st_86 : strOfT Tryd.prog 86 = false := by kernel_rfl
@[go_sem] theorem k_ik_86 : intOfT Tryd.prog 86 = none := by kernel_rfl
@[go_sem] theorem k_by_86 : bytesOfT Tryd.prog 86 = 24 := by kernel_rfl
@[go_sem] theorem k_el_86 : elemOf Tryd.prog 86 = some 3 := by kernel_rfl
@[go_sem] theorem k_ze_86 : zeroOf Tryd.prog 86 = some [.slice none 0 0] := by kernel_rfl
@[go_sem] theorem k_sz_87 : szOf Tryd.prog 87 = some 1 := by kernel_rfl
@[go_sem] theorem k_nz_87 : nzOf Tryd.prog 87 = true := by kernel_rfl
@[go_sem] theorem k_ag_87 : aggOf Tryd.prog 87 = some false := by kernel_rfl
@[go_sem] theorem k_us_87 : (Tryd.prog.underlying 87).isSome = true := by kernel_rfl
@[go_sem] theorem k_cc_87 : concreteT Tryd.prog 87 = true := by kernel_rfl
@[go_sem] theorem k_st_87 : strOfT Tryd.prog 87 = false := by kernel_rfl
@[go_sem] theorem k_ik_87 : intOfT Tryd.prog 87 = none := by kernel_rfl
@[go_sem] theorem k_by_87 : bytesOfT Tryd.prog 87 = 8 := by kernel_rfl
@[go_sem] theorem k_el_87 : elemOf Tryd.prog 87 = none := by kernel_rfl
@[go_sem] theorem k_ze_87 : zeroOf Tryd.prog 87 = some [.nilFunc] := by kernel_rfl
@[go_sem] theorem k_sz_88 : szOf Tryd.prog 88 = some 1 := by kernel_rfl
@[go_sem] theorem k_nz_88 : nzOf Tryd.prog 88 = true := by kernel_rfl
@[go_sem] theorem k_ag_88 : aggOf Tryd.prog 88 = some false := by kernel_rfl
@[go_sem] theorem k_us_88 : (Tryd.prog.underlying 88).isSome = true := by kernel_rfl
@[go_sem] theorem k_cc_88 : concreteT Tryd.prog 88 = true := by kernel_rfl
@[go_sem] theorem k_st_88 : strOfT Tryd.prog 88 = false := by kernel_rfl
@[go_sem] theorem k_ik_88 : intOfT Tryd.prog 88 = none := by kernel_rfl
@[go_sem] theorem k_by_88 : bytesOfT Tryd.prog 88 = 8 := by kernel_rfl
@[go_sem] theorem k_el_88 : elemOf Tryd.prog 88 = none := by kernel_rfl
@[go_sem] theorem k_ze_88 : zeroOf Tryd.prog 88 = some [.nilFunc] := by kernel_rfl
@[go_sem] theorem k_sz_89 : szOf Tryd.prog 89 = some 1 := by kernel_rfl
@[go_sem] theorem k_nz_89 : nzOf Tryd.prog 89 = true := by kernel_rfl
@[go_sem] theorem k_ag_89 : aggOf Tryd.prog 89 = some false := by kernel_rfl
@[go_sem] theorem k_us_89 : (Tryd.prog.underlying 89).isSome = true := by kernel_rfl
@[go_sem] theorem k_cc_89 : concreteT Tryd.prog 89 = true := by kernel_rfl
@[go_sem] theorem k_st_89 : strOfT Tryd.prog 89 = false := by kernel_rfl
@[go_sem] theorem k_ik_89 : intOfT Tryd.prog 89 = none := by kernel_rfl
@[go_sem] theorem k_by_89 : bytesOfT Tryd.prog 89 = 8 := by kernel_rfl
@[go_sem] theorem k_el_89 : elemOf Tryd.prog 89 = none := by kernel_rfl
@[go_sem] theorem k_ze_89 : zeroOf Tryd.prog 89 = some [.nilFunc] := by kernel_rfl
@[go_sem] theorem k_sz_90 : szOf Tryd.prog 90 = some 1 := by kernel_rfl
@[go_sem] theorem k_nz_90 : nzOf Tryd.prog 90 = true := by kernel_rfl
@[go_sem] theorem k_ag_90 : aggOf Tryd.prog 90 = some false := by kernel_rfl
@[go_sem] theorem k_us_90 : (Tryd.prog.underlying 90).isSome = true := by kernel_rfl
@[go_sem] theorem k_cc_90 : concreteT Tryd.prog 90 = true := by kernel_rfl
@[go_sem] theorem k_st_90 : strOfT Tryd.prog 90 = false := by kernel_rfl
@[go_sem] theorem k_ik_90 : intOfT Tryd.prog 90 = none := by kernel_rfl
@[go_sem] theorem k_by_90 : bytesOfT Tryd.prog 90 = 8 := by kernel_rfl
@[go_sem] theorem k_el_90 : elemOf Tryd.prog 90 = none := by kernel_rfl
@[go_sem] theorem k_ze_90 : zeroOf Tryd.prog 90 = some [.nilFunc] := by kernel_rfl
@[go_sem] theorem k_sz_91 : szOf Tryd.prog 91 = some 1 := by kernel_rfl
@[go_sem] theorem k_nz_91 : nzOf Tryd.prog 91 = true := by kernel_rfl
@[go_sem] theorem k_ag_91 : aggOf Tryd.prog 91 = some false := by kernel_rfl
@[go_sem] theorem k_us_91 : (Tryd.prog.underlying 91).isSome = true := by kernel_rfl
@[go_sem] theorem k_cc_91 : concreteT Tryd.prog 91 = true := by kernel_rfl
@[go_sem] theorem k_st_91 : strOfT Tryd.prog 91 = false := by kernel_rfl
@[go_sem] theorem k_ik_91 : intOfT Tryd.prog 91 = none := by kernel_rfl
@[go_sem] theorem k_by_91 : bytesOfT Tryd.prog 91 = 8 := by kernel_rfl
@[go_sem] theorem k_el_91 : elemOf Tryd.prog 91 = none := by kernel_rfl
@[go_sem] theorem k_ze_91 : zeroOf Tryd.prog 91 = some [.nilFunc] := by kernel_rfl
@[go_sem] theorem k_sz_92 : szOf Tryd.prog 92 = some 1 := by kernel_rfl
@[go_sem] theorem k_nz_92 : nzOf Tryd.prog 92 = true := by kernel_rfl
@[go_sem] theorem k_ag_92 : aggOf Tryd.prog 92 = some true := by kernel_rfl
@[go_sem] theorem k_us_92 : (Tryd.prog.underlying 92).isSome = true := by kernel_rfl
@[go_sem] theorem k_cc_92 : concreteT Tryd.prog 92 = true := by kernel_rfl
@[go_sem] theorem k_st_92 : strOfT Tryd.prog 92 = false := by kernel_rfl
@[go_sem] theorem k_ik_92 : intOfT Tryd.prog 92 = none := by kernel_rfl
@[go_sem] theorem k_by_92 : bytesOfT Tryd.prog 92 = 8 := by kernel_rfl
@[go_sem] theorem k_el_92 : elemOf Tryd.prog 92 = none := by kernel_rfl
@[go_sem] theorem k_ze_92 : zeroOf Tryd.prog 92 = some [.pointer none] := by kernel_rfl
@[go_sem] theorem k_fi_92_0 : fieldOf Tryd.prog 92 0 = some (0, 17) := by kernel_rfl
@[go_sem] theorem k_pl_92 : placesOf Tryd.prog 92 = some [(0, 1)] := by kernel_rfl
@[go_sem] theorem k_sz_93 : szOf Tryd.prog 93 = some 1 := by kernel_rfl
@[go_sem] theorem k_nz_93 : nzOf Tryd.prog 93 = true := by kernel_rfl
@[go_sem] theorem k_ag_93 : aggOf Tryd.prog 93 = some true := by kernel_rfl
@[go_sem] theorem k_us_93 : (Tryd.prog.underlying 93).isSome = true := by kernel_rfl
@[go_sem] theorem k_cc_93 : concreteT Tryd.prog 93 = true := by kernel_rfl
@[go_sem] theorem k_st_93 : strOfT Tryd.prog 93 = false := by kernel_rfl
@[go_sem] theorem k_ik_93 : intOfT Tryd.prog 93 = none := by kernel_rfl
@[go_sem] theorem k_by_93 : bytesOfT Tryd.prog 93 = 8 := by kernel_rfl
@[go_sem] theorem k_el_93 : elemOf Tryd.prog 93 = none := by kernel_rfl
@[go_sem] theorem k_ze_93 : zeroOf Tryd.prog 93 = some [.pointer none] := by kernel_rfl
@[go_sem] theorem k_fi_93_0 : fieldOf Tryd.prog 93 0 = some (0, 17) := by kernel_rfl
@[go_sem] theorem k_pl_93 : placesOf Tryd.prog 93 = some [(0, 1)] := by kernel_rfl
@[go_sem] theorem k_sz_94 : szOf Tryd.prog 94 = some 1 := by kernel_rfl
@[go_sem] theorem k_nz_94 : nzOf Tryd.prog 94 = true := by kernel_rfl
@[go_sem] theorem k_ag_94 : aggOf Tryd.prog 94 = some false := by kernel_rfl
@[go_sem] theorem k_us_94 : (Tryd.prog.underlying 94).isSome = true := by kernel_rfl
@[go_sem] theorem k_cc_94 : concreteT Tryd.prog 94 = true := by kernel_rfl
@[go_sem] theorem k_st_94 : strOfT Tryd.prog 94 = false := by kernel_rfl
@[go_sem] theorem k_ik_94 : intOfT Tryd.prog 94 = none := by kernel_rfl
@[go_sem] theorem k_by_94 : bytesOfT Tryd.prog 94 = 8 := by kernel_rfl
@[go_sem] theorem k_el_94 : elemOf Tryd.prog 94 = none := by kernel_rfl
@[go_sem] theorem k_ze_94 : zeroOf Tryd.prog 94 = some [.pointer none] := by kernel_rfl
@[go_sem] theorem k_sz_95 : szOf Tryd.prog 95 = some 1 := by kernel_rfl
@[go_sem] theorem k_nz_95 : nzOf Tryd.prog 95 = true := by kernel_rfl
@[go_sem] theorem k_ag_95 : aggOf Tryd.prog 95 = some false := by kernel_rfl
@[go_sem] theorem k_us_95 : (Tryd.prog.underlying 95).isSome = true := by kernel_rfl
@[go_sem] theorem k_cc_95 : concreteT Tryd.prog 95 = true := by kernel_rfl
@[go_sem] theorem k_st_95 : strOfT Tryd.prog 95 = false := by kernel_rfl
@[go_sem] theorem k_ik_95 : intOfT Tryd.prog 95 = none := by kernel_rfl
@[go_sem] theorem k_by_95 : bytesOfT Tryd.prog 95 = 8 := by kernel_rfl
@[go_sem] theorem k_el_95 : elemOf Tryd.prog 95 = none := by kernel_rfl
@[go_sem] theorem k_ze_95 : zeroOf Tryd.prog 95 = some [.nilFunc] := by kernel_rfl
@[go_sem] theorem k_sz_96 : szOf Tryd.prog 96 = some 1 := by kernel_rfl
@[go_sem] theorem k_nz_96 : nzOf Tryd.prog 96 = true := by kernel_rfl
@[go_sem] theorem k_ag_96 : aggOf Tryd.prog 96 = some false := by kernel_rfl
@[go_sem] theorem k_us_96 : (Tryd.prog.underlying 96).isSome = true := by kernel_rfl
@[go_sem] theorem k_cc_96 : concreteT Tryd.prog 96 = true := by kernel_rfl
@[go_sem] theorem k_st_96 : strOfT Tryd.prog 96 = false := by kernel_rfl
@[go_sem] theorem k_ik_96 : intOfT Tryd.prog 96 = none := by kernel_rfl
@[go_sem] theorem k_by_96 : bytesOfT Tryd.prog 96 = 8 := by kernel_rfl
@[go_sem] theorem k_el_96 : elemOf Tryd.prog 96 = none := by kernel_rfl
@[go_sem] theorem k_ze_96 : zeroOf Tryd.prog 96 = some [.nilFunc] := by kernel_rfl
@[go_sem] theorem k_sz_97 : szOf Tryd.prog 97 = some 1 := by kernel_rfl
@[go_sem] theorem k_nz_97 : nzOf Tryd.prog 97 = true := by kernel_rfl
@[go_sem] theorem k_ag_97 : aggOf Tryd.prog 97 = some false := by kernel_rfl
@[go_sem] theorem k_us_97 : (Tryd.prog.underlying 97).isSome = true := by kernel_rfl
@[go_sem] theorem k_cc_97 : concreteT Tryd.prog 97 = false := by kernel_rfl
@[go_sem] theorem k_st_97 : strOfT Tryd.prog 97 = false := by kernel_rfl
@[go_sem] theorem k_ik_97 : intOfT Tryd.prog 97 = none := by kernel_rfl
@[go_sem] theorem k_by_97 : bytesOfT Tryd.prog 97 = 16 := by kernel_rfl
@[go_sem] theorem k_el_97 : elemOf Tryd.prog 97 = none := by kernel_rfl
@[go_sem] theorem k_ze_97 : zeroOf Tryd.prog 97 = some [.nilIface] := by kernel_rfl
@[go_sem] theorem k_sz_98 : szOf Tryd.prog 98 = some 1 := by kernel_rfl
@[go_sem] theorem k_nz_98 : nzOf Tryd.prog 98 = true := by kernel_rfl
@[go_sem] theorem k_ag_98 : aggOf Tryd.prog 98 = some false := by kernel_rfl
@[go_sem] theorem k_us_98 : (Tryd.prog.underlying 98).isSome = true := by kernel_rfl
@[go_sem] theorem k_cc_98 : concreteT Tryd.prog 98 = true := by kernel_rfl
@[go_sem] theorem k_st_98 : strOfT Tryd.prog 98 = false := by kernel_rfl
@[go_sem] theorem k_ik_98 : intOfT Tryd.prog 98 = none := by kernel_rfl
@[go_sem] theorem k_by_98 : bytesOfT Tryd.prog 98 = 0 := by kernel_rfl
@[go_sem] theorem k_el_98 : elemOf Tryd.prog 98 = none := by kernel_rfl
@[go_sem] theorem k_sz_99 : szOf Tryd.prog 99 = some 1 := by kernel_rfl
@[go_sem] theorem k_nz_99 : nzOf Tryd.prog 99 = true := by kernel_rfl
@[go_sem] theorem k_ag_99 : aggOf Tryd.prog 99 = some false := by kernel_rfl
@[go_sem] theorem k_us_99 : (Tryd.prog.underlying 99).isSome = true := by kernel_rfl
@[go_sem] theorem k_cc_99 : concreteT Tryd.prog 99 = true := by kernel_rfl
@[go_sem] theorem k_st_99 : strOfT Tryd.prog 99 = false := by kernel_rfl
@[go_sem] theorem k_ik_99 : intOfT Tryd.prog 99 = none := by kernel_rfl
@[go_sem] theorem k_by_99 : bytesOfT Tryd.prog 99 = 8 := by kernel_rfl
@[go_sem] theorem k_el_99 : elemOf Tryd.prog 99 = none := by kernel_rfl
@[go_sem] theorem k_ze_99 : zeroOf Tryd.prog 99 = some [.nilFunc] := by kernel_rfl
@[go_sem] theorem k_sz_100 : szOf Tryd.prog 100 = some 1 := by kernel_rfl
@[go_sem] theorem k_nz_100 : nzOf Tryd.prog 100 = true := by kernel_rfl
@[go_sem] theorem k_ag_100 : aggOf Tryd.prog 100 = some false := by kernel_rfl
@[go_sem] theorem k_us_100 : (Tryd.prog.underlying 100).isSome = true := by kernel_rfl
@[go_sem] theorem k_cc_100 : concreteT Tryd.prog 100 = false := by kernel_rfl
@[go_sem] theorem k_st_100 : strOfT Tryd.prog 100 = false := by kernel_rfl
@[go_sem] theorem k_ik_100 : intOfT Tryd.prog 100 = none := by kernel_rfl
@[go_sem] theorem k_by_100 : bytesOfT Tryd.prog 100 = 16 := by kernel_rfl
@[go_sem] theorem k_el_100 : elemOf Tryd.prog 100 = none := by kernel_rfl
@[go_sem] theorem k_ze_100 : zeroOf Tryd.prog 100 = some [.nilIface] := by kernel_rfl
@[go_sem] theorem k_sz_101 : szOf Tryd.prog 101 = some 1 := by kernel_rfl
@[go_sem] theorem k_nz_101 : nzOf Tryd.prog 101 = true := by kernel_rfl
@[go_sem] theorem k_ag_101 : aggOf Tryd.prog 101 = some false := by kernel_rfl
@[go_sem] theorem k_us_101 : (Tryd.prog.underlying 101).isSome = true := by kernel_rfl
@[go_sem] theorem k_cc_101 : concreteT Tryd.prog 101 = true := by kernel_rfl
@[go_sem] theorem k_st_101 : strOfT Tryd.prog 101 = false := by kernel_rfl
@[go_sem] theorem k_ik_101 : intOfT Tryd.prog 101 = none := by kernel_rfl
@[go_sem] theorem k_by_101 : bytesOfT Tryd.prog 101 = 8 := by kernel_rfl
@[go_sem] theorem k_el_101 : elemOf Tryd.prog 101 = none := by kernel_rfl
@[go_sem] theorem k_ze_101 : zeroOf Tryd.prog 101 = some [.nilFunc] := by kernel_rfl
@[go_sem] theorem k_sz_102 : szOf Tryd.prog 102 = some 1 := by kernel_rfl
@[go_sem] theorem k_nz_102 : nzOf Tryd.prog 102 = true := by kernel_rfl
@[go_sem] theorem k_ag_102 : aggOf Tryd.prog 102 = some false := by kernel_rfl
@[go_sem] theorem k_us_102 : (Tryd.prog.underlying 102).isSome = true := by kernel_rfl
@[go_sem] theorem k_cc_102 : concreteT Tryd.prog 102 = false := by kernel_rfl
@[go_sem] theorem k_st_102 : strOfT Tryd.prog 102 = false := by kernel_rfl
@[go_sem] theorem k_ik_102 : intOfT Tryd.prog 102 = none := by kernel_rfl
@[go_sem] theorem k_by_102 : bytesOfT Tryd.prog 102 = 16 := by kernel_rfl
@[go_sem] theorem k_el_102 : elemOf Tryd.prog 102 = none := by kernel_rfl
@[go_sem] theorem k_ze_102 : zeroOf Tryd.prog 102 = some [.nilIface] := by kernel_rfl
@[go_sem] theorem k_sz_103 : szOf Tryd.prog 103 = some 1 := by kernel_rfl
@[go_sem] theorem k_nz_103 : nzOf Tryd.prog 103 = true := by kernel_rfl
@[go_sem] theorem k_ag_103 : aggOf Tryd.prog 103 = some false := by kernel_rfl
@[go_sem] theorem k_us_103 : (Tryd.prog.underlying 103).isSome = true := by kernel_rfl
@[go_sem] theorem k_cc_103 : concreteT Tryd.prog 103 = true := by kernel_rfl
@[go_sem] theorem k_st_103 : strOfT Tryd.prog 103 = false := by kernel_rfl
@[go_sem] theorem k_ik_103 : intOfT Tryd.prog 103 = none := by kernel_rfl
@[go_sem] theorem k_by_103 : bytesOfT Tryd.prog 103 = 24 := by kernel_rfl
@[go_sem] theorem k_el_103 : elemOf Tryd.prog 103 = some 27 := by kernel_rfl
@[go_sem] theorem k_ze_103 : zeroOf Tryd.prog 103 = some [.slice none 0 0] := by kernel_rfl
@[go_sem] theorem k_sz_104 : szOf Tryd.prog 104 = some 1 := by kernel_rfl
@[go_sem] theorem k_nz_104 : nzOf Tryd.prog 104 = true := by kernel_rfl
@[go_sem] theorem k_ag_104 : aggOf Tryd.prog 104 = some false := by kernel_rfl
@[go_sem] theorem k_us_104 : (Tryd.prog.underlying 104).isSome = true := by kernel_rfl
@[go_sem] theorem k_cc_104 : concreteT Tryd.prog 104 = true := by kernel_rfl
@[go_sem] theorem k_st_104 : strOfT Tryd.prog 104 = false := by kernel_rfl
@[go_sem] theorem k_ik_104 : intOfT Tryd.prog 104 = none := by kernel_rfl
@[go_sem] theorem k_by_104 : bytesOfT Tryd.prog 104 = 8 := by kernel_rfl
@[go_sem] theorem k_el_104 : elemOf Tryd.prog 104 = none := by kernel_rfl
@[go_sem] theorem k_ze_104 : zeroOf Tryd.prog 104 = some [.nilFunc] := by kernel_rfl
@[go_sem] theorem k_sz_105 : szOf Tryd.prog 105 = some 1 := by kernel_rfl
@[go_sem] theorem k_nz_105 : nzOf Tryd.prog 105 = true := by kernel_rfl
@[go_sem] theorem k_ag_105 : aggOf Tryd.prog 105 = some false := by kernel_rfl
@[go_sem] theorem k_us_105 : (Tryd.prog.underlying 105).isSome = true := by kernel_rfl
@[go_sem] theorem k_cc_105 : concreteT Tryd.prog 105 = false := by kernel_rfl
@[go_sem] theorem k_st_105 : strOfT Tryd.prog 105 = false := by kernel_rfl
@[go_sem] theorem k_ik_105 : intOfT Tryd.prog 105 = none := by kernel_rfl
@[go_sem] theorem k_by_105 : bytesOfT Tryd.prog 105 = 16 := by kernel_rfl
@[go_sem] theorem k_el_105 : elemOf Tryd.prog 105 = none := by kernel_rfl
@[go_sem] theorem k_ze_105 : zeroOf Tryd.prog 105 = some [.nilIface] := by kernel_rfl
@[go_sem] theorem k_sz_106 : szOf Tryd.prog 106 = some 1 := by kernel_rfl
@[go_sem] theorem k_nz_106 : nzOf Tryd.prog 106 = true := by kernel_rfl
@[go_sem] theorem k_ag_106 : aggOf Tryd.prog 106 = some false := by kernel_rfl
@[go_sem] theorem k_us_106 : (Tryd.prog.underlying 106).isSome = true := by kernel_rfl
@[go_sem] theorem k_cc_106 : concreteT Tryd.prog 106 = true := by kernel_rfl
@[go_sem] theorem k_st_106 : strOfT Tryd.prog 106 = false := by kernel_rfl
@[go_sem] theorem k_ik_106 : intOfT Tryd.prog 106 = none := by kernel_rfl
@[go_sem] theorem k_by_106 : bytesOfT Tryd.prog 106 = 0 := by kernel_rfl
@[go_sem] theorem k_el_106 : elemOf Tryd.prog 106 = none := by kernel_rfl
@[go_sem] theorem k_sz_107 : szOf Tryd.prog 107 = some 1 := by kernel_rfl
@[go_sem] theorem k_nz_107 : nzOf Tryd.prog 107 = true := by kernel_rfl
@[go_sem] theorem k_ag_107 : aggOf Tryd.prog 107 = some false := by kernel_rfl
@[go_sem] theorem k_us_107 : (Tryd.prog.underlying 107).isSome = true := by kernel_rfl
@[go_sem] theorem k_cc_107 : concreteT Tryd.prog 107 = true := by kernel_rfl
@[go_sem] theorem k_st_107 : strOfT Tryd.prog 107 = false := by kernel_rfl
@[go_sem] theorem k_ik_107 : intOfT Tryd.prog 107 = none := by kernel_rfl
@[go_sem] theorem k_by_107 : bytesOfT Tryd.prog 107 = 8 := by kernel_rfl
@[go_sem] theorem k_el_107 : elemOf Tryd.prog 107 = none := by kernel_rfl
@[go_sem] theorem k_ze_107 : zeroOf Tryd.prog 107 = some [.nilFunc] := by kernel_rfl
@[go_sem] theorem k_sz_108 : szOf Tryd.prog 108 = some 1 := by kernel_rfl
@[go_sem] theorem k_nz_108 : nzOf Tryd.prog 108 = true := by kernel_rfl
@[go_sem] theorem k_ag_108 : aggOf Tryd.prog 108 = some false := by kernel_rfl
@[go_sem] theorem k_us_108 : (Tryd.prog.underlying 108).isSome = true := by kernel_rfl
@[go_sem] theorem k_cc_108 : concreteT Tryd.prog 108 = true := by kernel_rfl
@[go_sem] theorem k_st_108 : strOfT Tryd.prog 108 = false := by kernel_rfl
@[go_sem] theorem k_ik_108 : intOfT Tryd.prog 108 = none := by kernel_rfl
@[go_sem] theorem k_by_108 : bytesOfT Tryd.prog 108 = 8 := by kernel_rfl
@[go_sem] theorem k_el_108 : elemOf Tryd.prog 108 = none := by kernel_rfl
@[go_sem] theorem k_ze_108 : zeroOf Tryd.prog 108 = some [.nilFunc] := by kernel_rfl
@[go_sem] theorem k_sz_109 : szOf Tryd.prog 109 = some 1 := by kernel_rfl
@[go_sem] theorem k_nz_109 : nzOf Tryd.prog 109 = true := by kernel_rfl
@[go_sem] theorem k_ag_109 : aggOf Tryd.prog 109 = some false := by kernel_rfl
@[go_sem] theorem k_us_109 : (Tryd.prog.underlying 109).isSome = true := by kernel_rfl
@[go_sem] theorem k_cc_109 : concreteT Tryd.prog 109 = true := by kernel_rfl
@[go_sem] theorem k_st_109 : strOfT Tryd.prog 109 = false := by kernel_rfl
@[go_sem] theorem k_ik_109 : intOfT Tryd.prog 109 = none := by kernel_rfl
@[go_sem] theorem k_by_109 : bytesOfT Tryd.prog 109 = 8 := by kernel_rfl
@[go_sem] theorem k_el_109 : elemOf Tryd.prog 109 = none := by kernel_rfl
@[go_sem] theorem k_ze_109 : zeroOf Tryd.prog 109 = some [.nilFunc] := by kernel_rfl
@[go_sem] theorem k_sz_110 : szOf Tryd.prog 110 = some 1 := by kernel_rfl
@[go_sem] theorem k_nz_110 : nzOf Tryd.prog 110 = true := by kernel_rfl
@[go_sem] theorem k_ag_110 : aggOf Tryd.prog 110 = some false := by kernel_rfl
@[go_sem] theorem k_us_110 : (Tryd.prog.underlying 110).isSome = true := by kernel_rfl
@[go_sem] theorem k_cc_110 : concreteT Tryd.prog 110 = true := by kernel_rfl
@[go_sem] theorem k_st_110 : strOfT Tryd.prog 110 = false := by kernel_rfl
@[go_sem] theorem k_ik_110 : intOfT Tryd.prog 110 = none := by kernel_rfl
@[go_sem] theorem k_by_110 : bytesOfT Tryd.prog 110 = 8 := by kernel_rfl
@[go_sem] theorem k_el_110 : elemOf Tryd.prog 110 = none := by kernel_rfl
@[go_sem] theorem k_ze_110 : zeroOf Tryd.prog 110 = some [.nilFunc] := by kernel_rfl
@[go_sem] theorem k_sz_111 : szOf Tryd.prog 111 = some 1 := by kernel_rfl
@[go_sem] theorem k_nz_111 : nzOf Tryd.prog 111 = true := by kernel_rfl
@[go_sem] theorem k_ag_111 : aggOf Tryd.prog 111 = some false := by kernel_rfl
@[go_sem] theorem k_us_111 : (Tryd.prog.underlying 111).isSome = true := by kernel_rfl
@[go_sem] theorem k_cc_111 : concreteT Tryd.prog 111 = true := by kernel_rfl
@[go_sem] theorem k_st_111 : strOfT Tryd.prog 111 = false := by kernel_rfl
@[go_sem] theorem k_ik_111 : intOfT Tryd.prog 111 = none := by kernel_rfl
@[go_sem] theorem k_by_111 : bytesOfT Tryd.prog 111 = 8 := by kernel_rfl
@[go_sem] theorem k_el_111 : elemOf Tryd.prog 111 = none := by kernel_rfl
@[go_sem] theorem k_ze_111 : zeroOf Tryd.prog 111 = some [.nilFunc] := by kernel_rfl
@[go_sem] theorem k_sz_112 : szOf Tryd.prog 112 = some 1 := by kernel_rfl
@[go_sem] theorem k_nz_112 : nzOf Tryd.prog 112 = true := by kernel_rfl
@[go_sem] theorem k_ag_112 : aggOf Tryd.prog 112 = some false := by kernel_rfl
@[go_sem] theorem k_us_112 : (Tryd.prog.underlying 112).isSome = true := by kernel_rfl
@[go_sem] theorem k_cc_112 : concreteT Tryd.prog 112 = true := by kernel_rfl
@[go_sem] theorem k_st_112 : strOfT Tryd.prog 112 = false := by kernel_rfl
@[go_sem] theorem k_ik_112 : intOfT Tryd.prog 112 = some .u64 := by kernel_rfl
@[go_sem] theorem k_by_112 : bytesOfT Tryd.prog 112 = 8 := by kernel_rfl
@[go_sem] theorem k_el_112 : elemOf Tryd.prog 112 = none := by kernel_rfl
@[go_sem] theorem k_ze_112 : zeroOf Tryd.prog 112 = some [.int .u64 0] := by kernel_rfl
@[go_sem] theorem k_sz_113 : szOf Tryd.prog 113 = some 1 := by kernel_rfl
@[go_sem] theorem k_nz_113 : nzOf Tryd.prog 113 = true := by kernel_rfl
@[go_sem] theorem k_ag_113 : aggOf Tryd.prog 113 = some false := by kernel_rfl
@[go_sem] theorem k_us_113 : (Tryd.prog.underlying 113).isSome = true := by kernel_rfl
@[go_sem] theorem k_cc_113 : concreteT Tryd.prog 113 = true := by kernel_rfl
@[go_sem] theorem k_st_113 : strOfT Tryd.prog 113 = false := by kernel_rfl
@[go_sem] theorem k_ik_113 : intOfT Tryd.prog 113 = none := by kernel_rfl
@[go_sem] theorem k_by_113 : bytesOfT Tryd.prog 113 = 8 := by kernel_rfl
@[go_sem] theorem k_el_113 : elemOf Tryd.prog 113 = none := by kernel_rfl
@[go_sem] theorem k_ze_113 : zeroOf Tryd.prog 113 = some [.nilFunc] := by kernel_rfl
@[go_sem] theorem k_sz_114 : szOf Tryd.prog 114 = some 1 := by kernel_rfl
@[go_sem] theorem k_nz_114 : nzOf Tryd.prog 114 = true := by kernel_rfl
@[go_sem] theorem k_ag_114 : aggOf Tryd.prog 114 = some false := by kernel_rfl
@[go_sem] theorem k_us_114 : (Tryd.prog.underlying 114).isSome = true := by kernel_rfl
@[go_sem] theorem k_cc_114 : concreteT Tryd.prog 114 = true := by kernel_rfl
@[go_sem] theorem k_st_114 : strOfT Tryd.prog 114 = false := by kernel_rfl
@[go_sem] theorem k_ik_114 : intOfT Tryd.prog 114 = some .i64 := by kernel_rfl
@[go_sem] theorem k_by_114 : bytesOfT Tryd.prog 114 = 8 := by kernel_rfl
@[go_sem] theorem k_el_114 : elemOf Tryd.prog 114 = none := by kernel_rfl
@[go_sem] theorem k_ze_114 : zeroOf Tryd.prog 114 = some [.int .i64 0] := by kernel_rfl
@[go_sem] theorem k_sz_115 : szOf Tryd.prog 115 = some 1 := by kernel_rfl
@[go_sem] theorem k_nz_115 : nzOf Tryd.prog 115 = true := by kernel_rfl
@[go_sem] theorem k_ag_115 : aggOf Tryd.prog 115 = some false := by kernel_rfl
@[go_sem] theorem k_us_115 : (Tryd.prog.underlying 115).isSome = true := by kernel_rfl
@[go_sem] theorem k_cc_115 : concreteT Tryd.prog 115 = true := by kernel_rfl
@[go_sem] theorem k_st_115 : strOfT Tryd.prog 115 = false := by kernel_rfl
@[go_sem] theorem k_ik_115 : intOfT Tryd.prog 115 = none := by kernel_rfl
@[go_sem] theorem k_by_115 : bytesOfT Tryd.prog 115 = 0 := by kernel_rfl
@[go_sem] theorem k_el_115 : elemOf Tryd.prog 115 = none := by kernel_rfl
@[go_sem] theorem k_sz_116 : szOf Tryd.prog 116 = some 1 := by kernel_rfl
@[go_sem] theorem k_nz_116 : nzOf Tryd.prog 116 = true := by kernel_rfl
@[go_sem] theorem k_ag_116 : aggOf Tryd.prog 116 = some false := by kernel_rfl
@[go_sem] theorem k_us_116 : (Tryd.prog.underlying 116).isSome = true := by kernel_rfl
@[go_sem] theorem k_cc_116 : concreteT Tryd.prog 116 = true := by kernel_rfl
@[go_sem] theorem k_st_116 : strOfT Tryd.prog 116 = false := by kernel_rfl
@[go_sem] theorem k_ik_116 : intOfT Tryd.prog 116 = none := by kernel_rfl
@[go_sem] theorem k_by_116 : bytesOfT Tryd.prog 116 = 8 := by kernel_rfl
@[go_sem] theorem k_el_116 : elemOf Tryd.prog 116 = none := by kernel_rfl
@[go_sem] theorem k_ze_116 : zeroOf Tryd.prog 116 = some [.nilFunc] := by kernel_rfl
@[go_sem] theorem k_sz_117 : szOf Tryd.prog 117 = some 1 := by kernel_rfl
@[go_sem] theorem k_nz_117 : nzOf Tryd.prog 117 = true := by kernel_rfl
@[go_sem] theorem k_ag_117 : aggOf Tryd.prog 117 = some false := by kernel_rfl
@[go_sem] theorem k_us_117 : (Tryd.prog.underlying 117).isSome = true := by kernel_rfl
@[go_sem] theorem k_cc_117 : concreteT Tryd.prog 117 = true := by kernel_rfl
@[go_sem] theorem k_st_117 : strOfT Tryd.prog 117 = false := by kernel_rfl
@[go_sem] theorem k_ik_117 : intOfT Tryd.prog 117 = none := by kernel_rfl
@[go_sem] theorem k_by_117 : bytesOfT Tryd.prog 117 = 8 := by kernel_rfl
@[go_sem] theorem k_el_117 : elemOf Tryd.prog 117 = none := by kernel_rfl
@[go_sem] theorem k_ze_117 : zeroOf Tryd.prog 117 = some [.nilFunc] := by kernel_rfl
@[go_sem] theorem k_sz_118 : szOf Tryd.prog 118 = some 1 := by kernel_rfl
@[go_sem] theorem k_nz_118 : nzOf Tryd.prog 118 = true := by kernel_rfl
@[go_sem] theorem k_ag_118 : aggOf Tryd.prog 118 = some false := by kernel_rfl
@[go_sem] theorem k_us_118 : (Tryd.prog.underlying 118).isSome = true := by kernel_rfl
@[go_sem] theorem k_cc_118 : concreteT Tryd.prog 118 = true := by kernel_rfl
@[go_sem] theorem k_st_118 : strOfT Tryd.prog 118 = false := by kernel_rfl
@[go_sem] theorem k_ik_118 : intOfT Tryd.prog 118 = none := by kernel_rfl
@[go_sem] theorem k_by_118 : bytesOfT Tryd.prog 118 = 8 := by kernel_rfl
@[go_sem] theorem k_el_118 : elemOf Tryd.prog 118 = none := by kernel_rfl
@[go_sem] theorem k_ze_118 : zeroOf Tryd.prog 118 = some [.nilFunc] := by kernel_rfl
@[go_sem] theorem k_sz_119 : szOf Tryd.prog 119 = some 1 := by kernel_rfl
@[go_sem] theorem k_nz_119 : nzOf Tryd.prog 119 = true := by kernel_rfl
@[go_sem] theorem k_ag_119 : aggOf Tryd.prog 119 = some false := by kernel_rfl
@[go_sem] theorem k_us_119 : (Tryd.prog.underlying 119).isSome = true := by kernel_rfl
@[go_sem] theorem k_cc_119 : concreteT Tryd.prog 119 = true := by kernel_rfl
@[go_sem] theorem k_st_119 : strOfT Tryd.prog 119 = false := by kernel_rfl
@[go_sem] theorem k_ik_119 : intOfT Tryd.prog 119 = none := by kernel_rfl
@[go_sem] theorem k_by_119 : bytesOfT Tryd.prog 119 = 0 := by kernel_rfl
@[go_sem] theorem k_el_119 : elemOf Tryd.prog 119 = none := by kernel_rfl
@[go_sem] theorem k_sz_120 : szOf Tryd.prog 120 = some 1 := by kernel_rfl
@[go_sem] theorem k_nz_120 : nzOf Tryd.prog 120 = true := by kernel_rfl
@[go_sem] theorem k_ag_120 : aggOf Tryd.prog 120 = some false := by kernel_rfl
@[go_sem] theorem k_us_120 : (Tryd.prog.underlying 120).isSome = true := by kernel_rfl
@[go_sem] theorem k_cc_120 : concreteT Tryd.prog 120 = true := by kernel_rfl
@[go_sem] theorem k_st_120 : strOfT Tryd.prog 120 = false := by kernel_rfl
@[go_sem] theorem k_ik_120 : intOfT Tryd.prog 120 = none := by kernel_rfl
@[go_sem] theorem k_by_120 : bytesOfT Tryd.prog 120 = 8 := by kernel_rfl
@[go_sem] theorem k_el_120 : elemOf Tryd.prog 120 = none := by kernel_rfl
@[go_sem] theorem k_ze_120 : zeroOf Tryd.prog 120 = some [.nilFunc] := by kernel_rfl
@[go_sem] theorem k_sz_121 : szOf Tryd.prog 121 = some 1 := by kernel_rfl
@[go_sem] theorem k_nz_121 : nzOf Tryd.prog 121 = true := by kernel_rfl
@[go_sem] theorem k_ag_121 : aggOf Tryd.prog 121 = some false := by kernel_rfl
@[go_sem] theorem k_us_121 : (Tryd.prog.underlying 121).isSome = true := by kernel_rfl
@[go_sem] theorem k_cc_121 : concreteT Tryd.prog 121 = true := by kernel_rfl
@[go_sem] theorem k_st_121 : strOfT Tryd.prog 121 = false := by kernel_rfl
@[go_sem] theorem k_ik_121 : intOfT Tryd.prog 121 = none := by kernel_rfl
@[go_sem] theorem k_by_121 : bytesOfT Tryd.prog 121 = 8 := by kernel_rfl
@[go_sem] theorem k_el_121 : elemOf Tryd.prog 121 = none := by kernel_rfl
@[go_sem] theorem k_ze_121 : zeroOf Tryd.prog 121 = some [.nilFunc] := by kernel_rfl
@[go_sem] theorem k_sz_122 : szOf Tryd.prog 122 = some 1 := by kernel_rfl
@[go_sem] theorem k_nz_122 : nzOf Tryd.prog 122 = true := by kernel_rfl
@[go_sem] theorem k_ag_122 : aggOf Tryd.prog 122 = some false := by kernel_rfl
@[go_sem] theorem k_us_122 : (Tryd.prog.underlying 122).isSome = true := by kernel_rfl
@[go_sem] theorem k_cc_122 : concreteT Tryd.prog 122 = true := by kernel_rfl
@[go_sem] theorem k_st_122 : strOfT Tryd.prog 122 = false := by kernel_rfl
@[go_sem] theorem k_ik_122 : intOfT Tryd.prog 122 = some .u32 := by kernel_rfl
@[go_sem] theorem k_by_122 : bytesOfT Tryd.prog 122 = 4 := by kernel_rfl
@[go_sem] theorem k_el_122 : elemOf Tryd.prog 122 = none := by kernel_rfl
@[go_sem] theorem k_ze_122 : zeroOf Tryd.prog 122 = some [.int .u32 0] := by kernel_rfl
@[go_sem] theorem k_sz_123 : szOf Tryd.prog 123 = some 1 := by kernel_rfl
@[go_sem] theorem k_nz_123 : nzOf Tryd.prog 123 = true := by kernel_rfl
@[go_sem] theorem k_ag_123 : aggOf Tryd.prog 123 = some false := by kernel_rfl
@[go_sem] theorem k_us_123 : (Tryd.prog.underlying 123).isSome = true := by kernel_rfl
@[go_sem] theorem k_cc_123 : concreteT Tryd.prog 123 = true := by kernel_rfl
@[go_sem] theorem k_st_123 : strOfT Tryd.prog 123 = false := by kernel_rfl
@[go_sem] theorem k_ik_123 : intOfT Tryd.prog 123 = none := by kernel_rfl
@[go_sem] theorem k_by_123 : bytesOfT Tryd.prog 123 = 8 := by kernel_rfl
@[go_sem] theorem k_el_123 : elemOf Tryd.prog 123 = none := by kernel_rfl
@[go_sem] theorem k_ze_123 : zeroOf Tryd.prog 123 = some [.nilFunc] := by kernel_rfl
@[go_sem] theorem k_sz_124 : szOf Tryd.prog 124 = some 1 := by kernel_rfl
@[go_sem] theorem k_nz_124 : nzOf Tryd.prog 124 = true := by kernel_rfl
@[go_sem] theorem k_ag_124 : aggOf Tryd.prog 124 = some false := by kernel_rfl
@[go_sem] theorem k_us_124 : (Tryd.prog.underlying 124).isSome = true := by kernel_rfl
@[go_sem] theorem k_cc_124 : concreteT Tryd.prog 124 = true := by kernel_rfl
@[go_sem] theorem k_st_124 : strOfT Tryd.prog 124 = false := by kernel_rfl
@[go_sem] theorem k_ik_124 : intOfT Tryd.prog 124 = some .u64 := by kernel_rfl
@[go_sem] theorem k_by_124 : bytesOfT Tryd.prog 124 = 8 := by kernel_rfl
@[go_sem] theorem k_el_124 : elemOf Tryd.prog 124 = none := by kernel_rfl
@[go_sem] theorem k_ze_124 : zeroOf Tryd.prog 124 = some [.int .u64 0] := by kernel_rfl
@[go_sem] theorem k_sz_125 : szOf Tryd.prog 125 = some 1 := by kernel_rfl
@[go_sem] theorem k_nz_125 : nzOf Tryd.prog 125 = true := by kernel_rfl
@[go_sem] theorem k_ag_125 : aggOf Tryd.prog 125 = some false := by kernel_rfl
@[go_sem] theorem k_us_125 : (Tryd.prog.underlying 125).isSome = true := by kernel_rfl
@[go_sem] theorem k_cc_125 : concreteT Tryd.prog 125 = true := by kernel_rfl
@[go_sem] theorem k_st_125 : strOfT Tryd.prog 125 = false := by kernel_rfl
@[go_sem] theorem k_ik_125 : intOfT Tryd.prog 125 = some .u64 := by kernel_rfl
@[go_sem] theorem k_by_125 : bytesOfT Tryd.prog 125 = 8 := by kernel_rfl
@[go_sem] theorem k_el_125 : elemOf Tryd.prog 125 = none := by kernel_rfl
@[go_sem] theorem k_ze_125 : zeroOf Tryd.prog 125 = some [.int .u64 0] := by kernel_rfl
@[go_sem] theorem k_sz_126 : szOf Tryd.prog 126 = some 1 := by kernel_rfl
@[go_sem] theorem k_nz_126 : nzOf Tryd.prog 126 = true := by kernel_rfl
@[go_sem] theorem k_ag_126 : aggOf Tryd.prog 126 = some false := by kernel_rfl
@[go_sem] theorem k_us_126 : (Tryd.prog.underlying 126).isSome = true := by kernel_rfl
@[go_sem] theorem k_cc_126 : concreteT Tryd.prog 126 = true := by kernel_rfl
@[go_sem] theorem k_st_126 : strOfT Tryd.prog 126 = false := by kernel_rfl
@[go_sem] theorem k_ik_126 : intOfT Tryd.prog 126 = none := by kernel_rfl
@[go_sem] theorem k_by_126 : bytesOfT Tryd.prog 126 = 8 := by kernel_rfl
@[go_sem] theorem k_el_126 : elemOf Tryd.prog 126 = none := by kernel_rfl
@[go_sem] theorem k_ze_126 : zeroOf Tryd.prog 126 = some [.nilFunc] := by kernel_rfl
@[go_sem] theorem k_sz_127 : szOf Tryd.prog 127 = some 1 := by kernel_rfl
@[go_sem] theorem k_nz_127 : nzOf Tryd.prog 127 = true := by kernel_rfl
@[go_sem] theorem k_ag_127 : aggOf Tryd.prog 127 = some false := by kernel_rfl
@[go_sem] theorem k_us_127 : (Tryd.prog.underlying 127).isSome = true := by kernel_rfl
@[go_sem] theorem k_cc_127 : concreteT Tryd.prog 127 = true := by kernel_rfl
@[go_sem] theorem k_st_127 : strOfT Tryd.prog 127 = false := by kernel_rfl
@[go_sem] theorem k_ik_127 : intOfT Tryd.prog 127 = none := by kernel_rfl
@[go_sem] theorem k_by_127 : bytesOfT Tryd.prog 127 = 8 := by kernel_rfl
@[go_sem] theorem k_el_127 : elemOf Tryd.prog 127 = none := by kernel_rfl
@[go_sem] theorem k_ze_127 : zeroOf Tryd.prog 127 = some [.nilFunc] := by kernel_rfl
@[go_sem] theorem k_sz_128 : szOf Tryd.prog 128 = some 1 := by kernel_rfl
@[go_sem] theorem k_nz_128 : nzOf Tryd.prog 128 = true := by kernel_rfl
@[go_sem] theorem k_ag_128 : aggOf Tryd.prog 128 = some false := by kernel_rfl
@[go_sem] theorem k_us_128 : (Tryd.prog.underlying 128).isSome = true := by kernel_rfl
@[go_sem] theorem k_cc_128 : concreteT Tryd.prog 128 = true := by kernel_rfl
@[go_sem] theorem k_st_128 : strOfT Tryd.prog 128 = false := by kernel_rfl
@[go_sem] theorem k_ik_128 : intOfT Tryd.prog 128 = none := by kernel_rfl
@[go_sem] theorem k_by_128 : bytesOfT Tryd.prog 128 = 8 := by kernel_rfl
@[go_sem] theorem k_el_128 : elemOf Tryd.prog 128 = none := by kernel_rfl
@[go_sem] theorem k_ze_128 : zeroOf Tryd.prog 128 = some [.nilFunc] := by kernel_rfl
@[go_sem] theorem k_sz_129 : szOf Tryd.prog 129 = some 1 := by kernel_rfl
@[go_sem] theorem k_nz_129 : nzOf Tryd.prog 129 = true := by kernel_rfl
@[go_sem] theorem k_ag_129 : aggOf Tryd.prog 129 = some false := by kernel_rfl
@[go_sem] theorem k_us_129 : (Tryd.prog.underlying 129).isSome = true := by kernel_rfl
@[go_sem] theorem k_cc_129 : concreteT Tryd.prog 129 = true := by kernel_rfl
@[go_sem] theorem k_st_129 : strOfT Tryd.prog 129 = false := by kernel_rfl
@[go_sem] theorem k_ik_129 : intOfT Tryd.prog 129 = none := by kernel_rfl
@[go_sem] theorem k_by_129 : bytesOfT Tryd.prog 129 = 8 := by kernel_rfl
@[go_sem] theorem k_el_129 : elemOf Tryd.prog 129 = none := by kernel_rfl
@[go_sem] theorem k_ze_129 : zeroOf Tryd.prog 129 = some [.pointer none] := by kernel_rfl
@[go_sem] theorem k_sz_130 : szOf Tryd.prog 130 = some 1 := by kernel_rfl
@[go_sem] theorem k_nz_130 : nzOf Tryd.prog 130 = true := by kernel_rfl
@[go_sem] theorem k_ag_130 : aggOf Tryd.prog 130 = some false := by kernel_rfl
@[go_sem] theorem k_us_130 : (Tryd.prog.underlying 130).isSome = true := by kernel_rfl
@[go_sem] theorem k_cc_130 : concreteT Tryd.prog 130 = true := by kernel_rfl
@[go_sem] theorem k_st_130 : strOfT Tryd.prog 130 = false := by kernel_rfl
@[go_sem] theorem k_ik_130 : intOfT Tryd.prog 130 = none := by kernel_rfl
@[go_sem] theorem k_by_130 : bytesOfT Tryd.prog 130 = 8 := by kernel_rfl
@[go_sem] theorem k_el_130 : elemOf Tryd.prog 130 = none := by kernel_rfl
@[go_sem] theorem k_ze_130 : zeroOf Tryd.prog 130 = some [.nilFunc] := by kernel_rfl
@[go_sem] theorem k_sz_131 : szOf Tryd.prog 131 = some 1 := by kernel_rfl
@[go_sem] theorem k_nz_131 : nzOf Tryd.prog 131 = true := by kernel_rfl
@[go_sem] theorem k_ag_131 : aggOf Tryd.prog 131 = some false := by kernel_rfl
@[go_sem] theorem k_us_131 : (Tryd.prog.underlying 131).isSome = true := by kernel_rfl
@[go_sem] theorem k_cc_131 : concreteT Tryd.prog 131 = true := by kernel_rfl
@[go_sem] theorem k_st_131 : strOfT Tryd.prog 131 = false := by kernel_rfl
@[go_sem] theorem k_ik_131 : intOfT Tryd.prog 131 = none := by kernel_rfl
@[go_sem] theorem k_by_131 : bytesOfT Tryd.prog 131 = 8 := by kernel_rfl
@[go_sem] theorem k_el_131 : elemOf Tryd.prog 131 = none := by kernel_rfl
@[go_sem] theorem k_ze_131 : zeroOf Tryd.prog 131 = some [.pointer none] := by kernel_rfl
@[go_sem] theorem k_sz_132 : szOf Tryd.prog 132 = some 1 := by kernel_rfl
@[go_sem] theorem k_nz_132 : nzOf Tryd.prog 132 = true := by kernel_rfl
@[go_sem] theorem k_ag_132 : aggOf Tryd.prog 132 = some false := by kernel_rfl
@[go_sem] theorem k_us_132 : (Tryd.prog.underlying 132).isSome = true := by kernel_rfl
@[go_sem] theorem k_cc_132 : concreteT Tryd.prog 132 = true := by kernel_rfl
@[go_sem] theorem k_st_132 : strOfT Tryd.prog 132 = false := by kernel_rfl
@[go_sem] theorem k_ik_132 : intOfT Tryd.prog 132 = none := by kernel_rfl
@[go_sem] theorem k_by_132 : bytesOfT Tryd.prog 132 = 8 := by kernel_rfl
@[go_sem] theorem k_el_132 : elemOf Tryd.prog 132 = none := by kernel_rfl
@[go_sem] theorem k_ze_132 : zeroOf Tryd.prog 132 = some [.nilFunc] := by kernel_rfl
@[go_sem] theorem k_sz_133 : szOf Tryd.prog 133 = some 1 := by kernel_rfl
@[go_sem] theorem k_nz_133 : nzOf Tryd.prog 133 = true := by kernel_rfl
@[go_sem] theorem k_ag_133 : aggOf Tryd.prog 133 = some false := by kernel_rfl
@[go_sem] theorem k_us_133 : (Tryd.prog.underlying 133).isSome = true := by kernel_rfl
@[go_sem] theorem k_cc_133 : concreteT Tryd.prog 133 = true := by kernel_rfl
@[go_sem] theorem k_st_133 : strOfT Tryd.prog 133 = false := by kernel_rfl
@[go_sem] theorem k_ik_133 : intOfT Tryd.prog 133 = none := by kernel_rfl
@[go_sem] theorem k_by_133 : bytesOfT Tryd.prog 133 = 8 := by kernel_rfl
@[go_sem] theorem k_el_133 : elemOf Tryd.prog 133 = none := by kernel_rfl
@[go_sem] theorem k_ze_133 : zeroOf Tryd.prog 133 = some [.nilFunc] := by kernel_rfl
@[go_sem] theorem k_sz_134 : szOf Tryd.prog 134 = some 4 := by kernel_rfl
@[go_sem] theorem k_nz_134 : nzOf Tryd.prog 134 = true := by kernel_rfl
@[go_sem] theorem k_ag_134 : aggOf Tryd.prog 134 = some true := by kernel_rfl
@[go_sem] theorem k_us_134 : (Tryd.prog.underlying 134).isSome = true := by kernel_rfl
@[go_sem] theorem k_cc_134 : concreteT Tryd.prog 134 = true := by kernel_rfl
@[go_sem] theorem k_st_134 : strOfT Tryd.prog 134 = false := by kernel_rfl
@[go_sem] theorem k_ik_134 : intOfT Tryd.prog 134 = none := by kernel_rfl
@[go_sem] theorem k_by_134 : bytesOfT Tryd.prog 134 = 40 := by kernel_rfl
@[go_sem] theorem k_el_134 : elemOf Tryd.prog 134 = none := by kernel_rfl
@[go_sem] theorem k_ze_134 : zeroOf Tryd.prog 134 = some [.pointer none, .pointer none, .pointer none, .string ⟨#[]⟩] := by kernel_rfl
@[go_sem] theorem k_fi_134_0 : fieldOf Tryd.prog 134 0 = some (0, 17) := by kernel_rfl
@[go_sem] theorem k_fi_134_1 : fieldOf Tryd.prog 134 1 = some (1, 17) := by kernel_rfl
@[go_sem] theorem k_fi_134_2 : fieldOf Tryd.prog 134 2 = some (2, 17) := by kernel_rfl
@[go_sem] theorem k_fi_134_3 : fieldOf Tryd.prog 134 3 = some (3, 9) := by kernel_rfl
@[go_sem] theorem k_pl_134 : placesOf Tryd.prog 134 = some [(0, 1), (1, 1), (2, 1), (3, 1)] := by kernel_rfl
@[go_sem] theorem k_sz_135 : szOf Tryd.prog 135 = some 4 := by kernel_rfl
@[go_sem] theorem k_nz_135 : nzOf Tryd.prog 135 = true := by kernel_rfl
@[go_sem] theorem k_ag_135 : aggOf Tryd.prog 135 = some true := by kernel_rfl
@[go_sem] theorem k_us_135 : (Tryd.prog.underlying 135).isSome = true := by kernel_rfl
@[go_sem] theorem k_cc_135 : concreteT Tryd.prog 135 = true := by kernel_rfl
@[go_sem] theorem k_st_135 : strOfT Tryd.prog 135 = false := by kernel_rfl
@[go_sem] theorem k_ik_135 : intOfT Tryd.prog 135 = none := by kernel_rfl
@[go_sem] theorem k_by_135 : bytesOfT Tryd.prog 135 = 40 := by kernel_rfl
@[go_sem] theorem k_el_135 : elemOf Tryd.prog 135 = none := by kernel_rfl
@[go_sem] theorem k_ze_135 : zeroOf Tryd.prog 135 = some [.pointer none, .pointer none, .pointer none, .string ⟨#[]⟩] := by kernel_rfl
@[go_sem] theorem k_fi_135_0 : fieldOf Tryd.prog 135 0 = some (0, 17) := by kernel_rfl
@[go_sem] theorem k_fi_135_1 : fieldOf Tryd.prog 135 1 = some (1, 17) := by kernel_rfl
@[go_sem] theorem k_fi_135_2 : fieldOf Tryd.prog 135 2 = some (2, 17) := by kernel_rfl
@[go_sem] theorem k_fi_135_3 : fieldOf Tryd.prog 135 3 = some (3, 9) := by kernel_rfl
@[go_sem] theorem k_pl_135 : placesOf Tryd.prog 135 = some [(0, 1), (1, 1), (2, 1), (3, 1)] := by kernel_rfl
@[go_sem] theorem k_sz_136 : szOf Tryd.prog 136 = some 0 := by kernel_rfl
@[go_sem] theorem k_nz_136 : nzOf Tryd.prog 136 = false := by kernel_rfl
@[go_sem] theorem k_ag_136 : aggOf Tryd.prog 136 = some true := by kernel_rfl
@[go_sem] theorem k_us_136 : (Tryd.prog.underlying 136).isSome = true := by kernel_rfl
@[go_sem] theorem k_cc_136 : concreteT Tryd.prog 136 = true := by kernel_rfl
@[go_sem] theorem k_st_136 : strOfT Tryd.prog 136 = false := by kernel_rfl
@[go_sem] theorem k_ik_136 : intOfT Tryd.prog 136 = none := by kernel_rfl
@[go_sem] theorem k_by_136 : bytesOfT Tryd.prog 136 = 0 := by kernel_rfl
@[go_sem] theorem k_el_136 : elemOf Tryd.prog 136 = none := by kernel_rfl
@[go_sem] theorem k_ze_136 : zeroOf Tryd.prog 136 = some [] := by kernel_rfl
@[go_sem] theorem k_sz_137 : szOf Tryd.prog 137 = some 0 := by kernel_rfl
@[go_sem] theorem k_nz_137 : nzOf Tryd.prog 137 = false := by kernel_rfl
@[go_sem] theorem k_ag_137 : aggOf Tryd.prog 137 = some true := by kernel_rfl
@[go_sem] theorem k_us_137 : (Tryd.prog.underlying 137).isSome = true := by kernel_rfl
@[go_sem] theorem k_cc_137 : concreteT Tryd.prog 137 = true := by kernel_rfl
@[go_sem] theorem k_st_137 : strOfT Tryd.prog 137 = false := by kernel_rfl
@[go_sem] theorem k_ik_137 : intOfT Tryd.prog 137 = none := by kernel_rfl
@[go_sem] theorem k_by_137 : bytesOfT Tryd.prog 137 = 0 := by kernel_rfl
@[go_sem] theorem k_el_137 : elemOf Tryd.prog 137 = none := by kernel_rfl
@[go_sem] theorem k_ze_137 : zeroOf Tryd.prog 137 = some [] := by kernel_rfl
@[go_sem] theorem k_fi_137_0 : fieldOf Tryd.prog 137 0 = some (0, 136) := by kernel_rfl
@[go_sem] theorem k_pl_137 : placesOf Tryd.prog 137 = some [(0, 0)] := by kernel_rfl
@[go_sem] theorem k_sz_138 : szOf Tryd.prog 138 = some 0 := by kernel_rfl
@[go_sem] theorem k_nz_138 : nzOf Tryd.prog 138 = false := by kernel_rfl
@[go_sem] theorem k_ag_138 : aggOf Tryd.prog 138 = some true := by kernel_rfl
@[go_sem] theorem k_us_138 : (Tryd.prog.underlying 138).isSome = true := by kernel_rfl
@[go_sem] theorem k_cc_138 : concreteT Tryd.prog 138 = true := by kernel_rfl
@[go_sem] theorem k_st_138 : strOfT Tryd.prog 138 = false := by kernel_rfl
@[go_sem] theorem k_ik_138 : intOfT Tryd.prog 138 = none := by kernel_rfl
@[go_sem] theorem k_by_138 : bytesOfT Tryd.prog 138 = 0 := by kernel_rfl
@[go_sem] theorem k_el_138 : elemOf Tryd.prog 138 = none := by kernel_rfl
@[go_sem] theorem k_ze_138 : zeroOf Tryd.prog 138 = some [] := by kernel_rfl
@[go_sem] theorem k_fi_138_0 : fieldOf Tryd.prog 138 0 = some (0, 136) := by kernel_rfl
@[go_sem] theorem k_pl_138 : placesOf Tryd.prog 138 = some [(0, 0)] := by kernel_rfl
@[go_sem] theorem k_sz_139 : szOf Tryd.prog 139 = some 1 := by kernel_rfl
@[go_sem] theorem k_nz_139 : nzOf Tryd.prog 139 = true := by kernel_rfl
@[go_sem] theorem k_ag_139 : aggOf Tryd.prog 139 = some false := by kernel_rfl
@[go_sem] theorem k_us_139 : (Tryd.prog.underlying 139).isSome = true := by kernel_rfl
@[go_sem] theorem k_cc_139 : concreteT Tryd.prog 139 = true := by kernel_rfl
@[go_sem] theorem k_st_139 : strOfT Tryd.prog 139 = false := by kernel_rfl
@[go_sem] theorem k_ik_139 : intOfT Tryd.prog 139 = none := by kernel_rfl
@[go_sem] theorem k_by_139 : bytesOfT Tryd.prog 139 = 8 := by kernel_rfl
@[go_sem] theorem k_el_139 : elemOf Tryd.prog 139 = none := by kernel_rfl
@[go_sem] theorem k_ze_139 : zeroOf Tryd.prog 139 = some [.nilFunc] := by kernel_rfl
@[go_sem] theorem k_sz_140 : szOf Tryd.prog 140 = some 1 := by kernel_rfl
@[go_sem] theorem k_nz_140 : nzOf Tryd.prog 140 = true := by kernel_rfl
@[go_sem] theorem k_ag_140 : aggOf Tryd.prog 140 = some false := by kernel_rfl
@[go_sem] theorem k_us_140 : (Tryd.prog.underlying 140).isSome = true := by kernel_rfl
@[go_sem] theorem k_cc_140 : concreteT Tryd.prog 140 = true := by kernel_rfl
@[go_sem] theorem k_st_140 : strOfT Tryd.prog 140 = false := by kernel_rfl
@[go_sem] theorem k_ik_140 : intOfT Tryd.prog 140 = none := by kernel_rfl
@[go_sem] theorem k_by_140 : bytesOfT Tryd.prog 140 = 8 := by kernel_rfl
@[go_sem] theorem k_el_140 : elemOf Tryd.prog 140 = none := by kernel_rfl
@[go_sem] theorem k_ze_140 : zeroOf Tryd.prog 140 = some [.nilFunc] := by kernel_rfl
@[go_sem] theorem k_sz_141 : szOf Tryd.prog 141 = some 1 := by kernel_rfl
@[go_sem] theorem k_nz_141 : nzOf Tryd.prog 141 = true := by kernel_rfl
@[go_sem] theorem k_ag_141 : aggOf Tryd.prog 141 = some false := by kernel_rfl
@[go_sem] theorem k_us_141 : (Tryd.prog.underlying 141).isSome = true := by kernel_rfl
@[go_sem] theorem k_cc_141 : concreteT Tryd.prog 141 = true := by kernel_rfl
@[go_sem] theorem k_st_141 : strOfT Tryd.prog 141 = false := by kernel_rfl
@[go_sem] theorem k_ik_141 : intOfT Tryd.prog 141 = some .u8 := by kernel_rfl
@[go_sem] theorem k_by_141 : bytesOfT Tryd.prog 141 = 1 := by kernel_rfl
@[go_sem] theorem k_el_141 : elemOf Tryd.prog 141 = none := by kernel_rfl
@[go_sem] theorem k_ze_141 : zeroOf Tryd.prog 141 = some [.int .u8 0] := by kernel_rfl
@[go_sem] theorem k_sz_142 : szOf Tryd.prog 142 = some 1 := by kernel_rfl
@[go_sem] theorem k_nz_142 : nzOf Tryd.prog 142 = true := by kernel_rfl
@[go_sem] theorem k_ag_142 : aggOf Tryd.prog 142 = some false := by kernel_rfl
@[go_sem] theorem k_us_142 : (Tryd.prog.underlying 142).isSome = true := by kernel_rfl
@[go_sem] theorem k_cc_142 : concreteT Tryd.prog 142 = true := by kernel_rfl
@[go_sem] theorem k_st_142 : strOfT Tryd.prog 142 = false := by kernel_rfl
@[go_sem] theorem k_ik_142 : intOfT Tryd.prog 142 = none := by kernel_rfl
@[go_sem] theorem k_by_142 : bytesOfT Tryd.prog 142 = 8 := by kernel_rfl
@[go_sem] theorem k_el_142 : elemOf Tryd.prog 142 = none := by kernel_rfl
@[go_sem] theorem k_ze_142 : zeroOf Tryd.prog 142 = some [.nilFunc] := by kernel_rfl
@[go_sem] theorem k_sz_143 : szOf Tryd.prog 143 = some 1 := by kernel_rfl
@[go_sem] theorem k_nz_143 : nzOf Tryd.prog 143 = true := by kernel_rfl
@[go_sem] theorem k_ag_143 : aggOf Tryd.prog 143 = some false := by kernel_rfl
@[go_sem] theorem k_us_143 : (Tryd.prog.underlying 143).isSome = true := by kernel_rfl
@[go_sem] theorem k_cc_143 : concreteT Tryd.prog 143 = true := by kernel_rfl
@[go_sem] theorem k_st_143 : strOfT Tryd.prog 143 = false := by kernel_rfl
@[go_sem] theorem k_ik_143 : intOfT Tryd.prog 143 = none := by kernel_rfl
@[go_sem] theorem k_by_143 : bytesOfT Tryd.prog 143 = 8 := by kernel_rfl
@[go_sem] theorem k_el_143 : elemOf Tryd.prog 143 = none := by kernel_rfl
@[go_sem] theorem k_ze_143 : zeroOf Tryd.prog 143 = some [.pointer none] := by kernel_rfl
@[go_sem] theorem k_sz_144 : szOf Tryd.prog 144 = some 1 := by kernel_rfl
@[go_sem] theorem k_nz_144 : nzOf Tryd.prog 144 = true := by kernel_rfl
@[go_sem] theorem k_ag_144 : aggOf Tryd.prog 144 = some false := by kernel_rfl
@[go_sem] theorem k_us_144 : (Tryd.prog.underlying 144).isSome = true := by kernel_rfl
@[go_sem] theorem k_cc_144 : concreteT Tryd.prog 144 = true := by kernel_rfl
@[go_sem] theorem k_st_144 : strOfT Tryd.prog 144 = false := by kernel_rfl
@[go_sem] theorem k_ik_144 : intOfT Tryd.prog 144 = some .i32 := by kernel_rfl
@[go_sem] theorem k_by_144 : bytesOfT Tryd.prog 144 = 4 := by kernel_rfl
@[go_sem] theorem k_el_144 : elemOf Tryd.prog 144 = none := by kernel_rfl
@[go_sem] theorem k_ze_144 : zeroOf Tryd.prog 144 = some [.int .i32 0] := by kernel_rfl
@[go_sem] theorem k_sz_145 : szOf Tryd.prog 145 = some 1 := by kernel_rfl
@[go_sem] theorem k_nz_145 : nzOf Tryd.prog 145 = true := by kernel_rfl
@[go_sem] theorem k_ag_145 : aggOf Tryd.prog 145 = some false := by kernel_rfl
@[go_sem] theorem k_us_145 : (Tryd.prog.underlying 145).isSome = true := by kernel_rfl
@[go_sem] theorem k_cc_145 : concreteT Tryd.prog 145 = true := by kernel_rfl
@[go_sem] theorem k_st_145 : strOfT Tryd.prog 145 = false := by kernel_rfl
@[go_sem] theorem k_ik_145 : intOfT Tryd.prog 145 = some .i32 := by kernel_rfl
@[go_sem] theorem k_by_145 : bytesOfT Tryd.prog 145 = 4 := by kernel_rfl
@[go_sem] theorem k_el_145 : elemOf Tryd.prog 145 = none := by kernel_rfl
@[go_sem] theorem k_ze_145 : zeroOf Tryd.prog 145 = some [.int .i32 0] := by kernel_rfl
@[go_sem] theorem k_sz_146 : szOf Tryd.prog 146 = some 11 := by kernel_rfl
@[go_sem] theorem k_nz_146 : nzOf Tryd.prog 146 = true := by kernel_rfl
@[go_sem] theorem k_ag_146 : aggOf Tryd.prog 146 = some true := by kernel_rfl
@[go_sem] theorem k_us_146 : (Tryd.prog.underlying 146).isSome = true := by kernel_rfl
@[go_sem] theorem k_cc_146 : concreteT Tryd.prog 146 = true := by kernel_rfl
@[go_sem] theorem k_st_146 : strOfT Tryd.prog 146 = false := by kernel_rfl
@[go_sem] theorem k_ik_146 : intOfT Tryd.prog 146 = none := by kernel_rfl
@[go_sem] theorem k_by_146 : bytesOfT Tryd.prog 146 = 48 := by kernel_rfl
@[go_sem] theorem k_el_146 : elemOf Tryd.prog 146 = none := by kernel_rfl
@[go_sem] theorem k_ze_146 : zeroOf Tryd.prog 146 = some [.int .u64 0, .int .u64 0, .int .u32 0, .int .u8 0, .int .u8 0, .int .u8 0, .int .u8 0, .nilFunc, .pointer none, .int .i32 0, .int .i32 0] := by kernel_rfl
@[go_sem] theorem k_fi_146_0 : fieldOf Tryd.prog 146 0 = some (0, 12) := by kernel_rfl
@[go_sem] theorem k_fi_146_1 : fieldOf Tryd.prog 146 1 = some (1, 12) := by kernel_rfl
@[go_sem] theorem k_fi_146_2 : fieldOf Tryd.prog 146 2 = some (2, 122) := by kernel_rfl
@[go_sem] theorem k_fi_146_3 : fieldOf Tryd.prog 146 3 = some (3, 141) := by kernel_rfl
@[go_sem] theorem k_fi_146_4 : fieldOf Tryd.prog 146 4 = some (4, 5) := by kernel_rfl
@[go_sem] theorem k_fi_146_5 : fieldOf Tryd.prog 146 5 = some (5, 5) := by kernel_rfl
@[go_sem] theorem k_fi_146_6 : fieldOf Tryd.prog 146 6 = some (6, 80) := by kernel_rfl
@[go_sem] theorem k_fi_146_7 : fieldOf Tryd.prog 146 7 = some (7, 142) := by kernel_rfl
@[go_sem] theorem k_fi_146_8 : fieldOf Tryd.prog 146 8 = some (8, 143) := by kernel_rfl
@[go_sem] theorem k_fi_146_9 : fieldOf Tryd.prog 146 9 = some (9, 144) := by kernel_rfl
@[go_sem] theorem k_fi_146_10 : fieldOf Tryd.prog 146 10 = some (10, 145) := by kernel_rfl
@[go_sem] theorem k_pl_146 : placesOf Tryd.prog 146 = some [(0, 1), (1, 1), (2, 1), (3, 1), (4, 1), (5, 1), (6, 1), (7, 1), (8, 1), (9, 1), (10, 1)] := by kernel_rfl
@[go_sem] theorem k_sz_147 : szOf Tryd.prog 147 = some 11 := by kernel_rfl
@[go_sem] theorem k_nz_147 : nzOf Tryd.prog 147 = true := by kernel_rfl
@[go_sem] theorem k_ag_147 : aggOf Tryd.prog 147 = some true := by kernel_rfl
@[go_sem] theorem k_us_147 : (Tryd.prog.underlying 147).isSome = true := by kernel_rfl
@[go_sem] theorem k_cc_147 : concreteT Tryd.prog 147 = true := by kernel_rfl
@[go_sem] theorem k_st_147 : strOfT Tryd.prog 147 = false := by kernel_rfl
@[go_sem] theorem k_ik_147 : intOfT Tryd.prog 147 = none := by kernel_rfl
@[go_sem] theorem k_by_147 : bytesOfT Tryd.prog 147 = 48 := by kernel_rfl
@[go_sem] theorem k_el_147 : elemOf Tryd.prog 147 = none := by kernel_rfl
@[go_sem] theorem k_ze_147 : zeroOf Tryd.prog 147 = some [.int .u64 0, .int .u64 0, .int .u32 0, .int .u8 0, .int .u8 0, .int .u8 0, .int .u8 0, .nilFunc, .pointer none, .int .i32 0, .int .i32 0] := by kernel_rfl
@[go_sem] theorem k_fi_147_0 : fieldOf Tryd.prog 147 0 = some (0, 12) := by kernel_rfl
@[go_sem] theorem k_fi_147_1 : fieldOf Tryd.prog 147 1 = some (1, 12) := by kernel_rfl
@[go_sem] theorem k_fi_147_2 : fieldOf Tryd.prog 147 2 = some (2, 122) := by kernel_rfl
@[go_sem] theorem k_fi_147_3 : fieldOf Tryd.prog 147 3 = some (3, 141) := by kernel_rfl
@[go_sem] theorem k_fi_147_4 : fieldOf Tryd.prog 147 4 = some (4, 5) := by kernel_rfl
@[go_sem] theorem k_fi_147_5 : fieldOf Tryd.prog 147 5 = some (5, 5) := by kernel_rfl
@[go_sem] theorem k_fi_147_6 : fieldOf Tryd.prog 147 6 = some (6, 80) := by kernel_rfl
@[go_sem] theorem k_fi_147_7 : fieldOf Tryd.prog 147 7 = some (7, 142) := by kernel_rfl
@[go_sem] theorem k_fi_147_8 : fieldOf Tryd.prog 147 8 = some (8, 143) := by kernel_rfl
@[go_sem] theorem k_fi_147_9 : fieldOf Tryd.prog 147 9 = some (9, 144) := by kernel_rfl
@[go_sem] theorem k_fi_147_10 : fieldOf Tryd.prog 147 10 = some (10, 145) := by kernel_rfl
@[go_sem] theorem k_pl_147 : placesOf Tryd.prog 147 = some [(0, 1), (1, 1), (2, 1), (3, 1), (4, 1), (5, 1), (6, 1), (7, 1), (8, 1), (9, 1), (10, 1)] := by kernel_rfl
@[go_sem] theorem k_sz_148 : szOf Tryd.prog 148 = some 1 := by kernel_rfl
@[go_sem] theorem k_nz_148 : nzOf Tryd.prog 148 = true := by kernel_rfl
@[go_sem] theorem k_ag_148 : aggOf Tryd.prog 148 = some false := by kernel_rfl
@[go_sem] theorem k_us_148 : (Tryd.prog.underlying 148).isSome = true := by kernel_rfl
@[go_sem] theorem k_cc_148 : concreteT Tryd.prog 148 = true := by kernel_rfl
@[go_sem] theorem k_st_148 : strOfT Tryd.prog 148 = false := by kernel_rfl
@[go_sem] theorem k_ik_148 : intOfT Tryd.prog 148 = none := by kernel_rfl
@[go_sem] theorem k_by_148 : bytesOfT Tryd.prog 148 = 8 := by kernel_rfl
@[go_sem] theorem k_el_148 : elemOf Tryd.prog 148 = none := by kernel_rfl
@[go_sem] theorem k_ze_148 : zeroOf Tryd.prog 148 = some [.nilFunc] := by kernel_rfl
@[go_sem] theorem k_sz_149 : szOf Tryd.prog 149 = some 1 := by kernel_rfl
@[go_sem] theorem k_nz_149 : nzOf Tryd.prog 149 = true := by kernel_rfl
@[go_sem] theorem k_ag_149 : aggOf Tryd.prog 149 = some false := by kernel_rfl
@[go_sem] theorem k_us_149 : (Tryd.prog.underlying 149).isSome = true := by kernel_rfl
@[go_sem] theorem k_cc_149 : concreteT Tryd.prog 149 = true := by kernel_rfl
@[go_sem] theorem k_st_149 : strOfT Tryd.prog 149 = false := by kernel_rfl
@[go_sem] theorem k_ik_149 : intOfT Tryd.prog 149 = none := by kernel_rfl
@[go_sem] theorem k_by_149 : bytesOfT Tryd.prog 149 = 8 := by kernel_rfl
@[go_sem] theorem k_el_149 : elemOf Tryd.prog 149 = none := by kernel_rfl
@[go_sem] theorem k_ze_149 : zeroOf Tryd.prog 149 = some [.nilFunc] := by kernel_rfl
@[go_sem] theorem k_sz_150 : szOf Tryd.prog 150 = some 2 := by kernel_rfl
@[go_sem] theorem k_nz_150 : nzOf Tryd.prog 150 = true := by kernel_rfl
@[go_sem] theorem k_ag_150 : aggOf Tryd.prog 150 = some true := by kernel_rfl
@[go_sem] theorem k_us_150 : (Tryd.prog.underlying 150).isSome = true := by kernel_rfl
@[go_sem] theorem k_cc_150 : concreteT Tryd.prog 150 = true := by kernel_rfl
@[go_sem] theorem k_st_150 : strOfT Tryd.prog 150 = false := by kernel_rfl
@[go_sem] theorem k_ik_150 : intOfT Tryd.prog 150 = none := by kernel_rfl
@[go_sem] theorem k_by_150 : bytesOfT Tryd.prog 150 = 24 := by kernel_rfl
@[go_sem] theorem k_el_150 : elemOf Tryd.prog 150 = none := by kernel_rfl
@[go_sem] theorem k_ze_150 : zeroOf Tryd.prog 150 = some [.string ⟨#[]⟩, .int .u8 0] := by kernel_rfl
@[go_sem] theorem k_fi_150_0 : fieldOf Tryd.prog 150 0 = some (0, 9) := by kernel_rfl
@[go_sem] theorem k_fi_150_1 : fieldOf Tryd.prog 150 1 = some (1, 80) := by kernel_rfl
@[go_sem] theorem k_pl_150 : placesOf Tryd.prog 150 = some [(0, 1), (1, 1)] := by kernel_rfl
@[go_sem] theorem k_sz_151 : szOf Tryd.prog 151 = some 2 := by kernel_rfl
@[go_sem] theorem k_nz_151 : nzOf Tryd.prog 151 = true := by kernel_rfl
@[go_sem] theorem k_ag_151 : aggOf Tryd.prog 151 = some true := by kernel_rfl
@[go_sem] theorem k_us_151 : (Tryd.prog.underlying 151).isSome = true := by kernel_rfl
@[go_sem] theorem k_cc_151 : concreteT Tryd.prog 151 = true := by kernel_rfl
@[go_sem] theorem k_st_151 : strOfT Tryd.prog 151 = false := by kernel_rfl
@[go_sem] theorem k_ik_151 : intOfT Tryd.prog 151 = none := by kernel_rfl
@[go_sem] theorem k_by_151 : bytesOfT Tryd.prog 151 = 24 := by kernel_rfl
@[go_sem] theorem k_el_151 : elemOf Tryd.prog 151 = none := by kernel_rfl
@[go_sem] theorem k_ze_151 : zeroOf Tryd.prog 151 = some [.string ⟨#[]⟩, .int .u8 0] := by kernel_rfl
@[go_sem] theorem k_fi_151_0 : fieldOf Tryd.prog 151 0 = some (0, 9) := by kernel_rfl
@[go_sem] theorem k_fi_151_1 : fieldOf Tryd.prog 151 1 = some (1, 80) := by kernel_rfl
@[go_sem] theorem k_pl_151 : placesOf Tryd.prog 151 = some [(0, 1), (1, 1)] := by kernel_rfl
@[go_sem] theorem k_sz_152 : szOf Tryd.prog 152 = some 1 := by kernel_rfl
@[go_sem] theorem k_nz_152 : nzOf Tryd.prog 152 = true := by kernel_rfl
@[go_sem] theorem k_ag_152 : aggOf Tryd.prog 152 = some false := by kernel_rfl
@[go_sem] theorem k_us_152 : (Tryd.prog.underlying 152).isSome = true := by kernel_rfl
@[go_sem] theorem k_cc_152 : concreteT Tryd.prog 152 = true := by kernel_rfl
@[go_sem] theorem k_st_152 : strOfT Tryd.prog 152 = false := by kernel_rfl
@[go_sem] theorem k_ik_152 : intOfT Tryd.prog 152 = none := by kernel_rfl
@[go_sem] theorem k_by_152 : bytesOfT Tryd.prog 152 = 8 := by kernel_rfl
@[go_sem] theorem k_el_152 : elemOf Tryd.prog 152 = none := by kernel_rfl
@[go_sem] theorem k_ze_152 : zeroOf Tryd.prog 152 = some [.pointer none] := by kernel_rfl
@[go_sem] theorem k_sz_153 : szOf Tryd.prog 153 = some 1 := by kernel_rfl
@[go_sem] theorem k_nz_153 : nzOf Tryd.prog 153 = true := by kernel_rfl
@[go_sem] theorem k_ag_153 : aggOf Tryd.prog 153 = some false := by kernel_rfl
@[go_sem] theorem k_us_153 : (Tryd.prog.underlying 153).isSome = true := by kernel_rfl
@[go_sem] theorem k_cc_153 : concreteT Tryd.prog 153 = true := by kernel_rfl
@[go_sem] theorem k_st_153 : strOfT Tryd.prog 153 = false := by kernel_rfl
@[go_sem] theorem k_ik_153 : intOfT Tryd.prog 153 = none := by kernel_rfl
@[go_sem] theorem k_by_153 : bytesOfT Tryd.prog 153 = 8 := by kernel_rfl
@[go_sem] theorem k_el_153 : elemOf Tryd.prog 153 = none := by kernel_rfl
@[go_sem] theorem k_ze_153 : zeroOf Tryd.prog 153 = some [.nilFunc] := by kernel_rfl
@[go_sem] theorem k_sz_154 : szOf Tryd.prog 154 = some 1 := by kernel_rfl
@[go_sem] theorem k_nz_154 : nzOf Tryd.prog 154 = true := by kernel_rfl
@[go_sem] theorem k_ag_154 : aggOf Tryd.prog 154 = some false := by kernel_rfl
@[go_sem] theorem k_us_154 : (Tryd.prog.underlying 154).isSome = true := by kernel_rfl
@[go_sem] theorem k_cc_154 : concreteT Tryd.prog 154 = true := by kernel_rfl
@[go_sem] theorem k_st_154 : strOfT Tryd.prog 154 = false := by kernel_rfl
@[go_sem] theorem k_ik_154 : intOfT Tryd.prog 154 = some .u16 := by kernel_rfl
@[go_sem] theorem k_by_154 : bytesOfT Tryd.prog 154 = 2 := by kernel_rfl
@[go_sem] theorem k_el_154 : elemOf Tryd.prog 154 = none := by kernel_rfl
@[go_sem] theorem k_ze_154 : zeroOf Tryd.prog 154 = some [.int .u16 0] := by kernel_rfl
@[go_sem] theorem k_sz_155 : szOf Tryd.prog 155 = some 5 := by kernel_rfl
@[go_sem] theorem k_nz_155 : nzOf Tryd.prog 155 = true := by kernel_rfl
@[go_sem] theorem k_ag_155 : aggOf Tryd.prog 155 = some true := by kernel_rfl
@[go_sem] theorem k_us_155 : (Tryd.prog.underlying 155).isSome = true := by kernel_rfl
@[go_sem] theorem k_cc_155 : concreteT Tryd.prog 155 = true := by kernel_rfl
@[go_sem] theorem k_st_155 : strOfT Tryd.prog 155 = false := by kernel_rfl
@[go_sem] theorem k_ik_155 : intOfT Tryd.prog 155 = none := by kernel_rfl
@[go_sem] theorem k_by_155 : bytesOfT Tryd.prog 155 = 16 := by kernel_rfl
@[go_sem] theorem k_el_155 : elemOf Tryd.prog 155 = none := by kernel_rfl
@[go_sem] theorem k_ze_155 : zeroOf Tryd.prog 155 = some [.int .i32 0, .int .u16 0, .int .u16 0, .int .u32 0, .int .u32 0] := by kernel_rfl
@[go_sem] theorem k_fi_155_0 : fieldOf Tryd.prog 155 0 = some (0, 144) := by kernel_rfl
@[go_sem] theorem k_fi_155_1 : fieldOf Tryd.prog 155 1 = some (1, 154) := by kernel_rfl
@[go_sem] theorem k_fi_155_2 : fieldOf Tryd.prog 155 2 = some (2, 154) := by kernel_rfl
@[go_sem] theorem k_fi_155_3 : fieldOf Tryd.prog 155 3 = some (3, 122) := by kernel_rfl
@[go_sem] theorem k_fi_155_4 : fieldOf Tryd.prog 155 4 = some (4, 122) := by kernel_rfl
@[go_sem] theorem k_pl_155 : placesOf Tryd.prog 155 = some [(0, 1), (1, 1), (2, 1), (3, 1), (4, 1)] := by kernel_rfl
@[go_sem] theorem k_sz_156 : szOf Tryd.prog 156 = some 5 := by kernel_rfl
@[go_sem] theorem k_nz_156 : nzOf Tryd.prog 156 = true := by kernel_rfl
@[go_sem] theorem k_ag_156 : aggOf Tryd.prog 156 = some true := by kernel_rfl
@[go_sem] theorem k_us_156 : (Tryd.prog.underlying 156).isSome = true := by kernel_rfl
@[go_sem] theorem k_cc_156 : concreteT Tryd.prog 156 = true := by kernel_rfl
@[go_sem] theorem k_st_156 : strOfT Tryd.prog 156 = false := by kernel_rfl
@[go_sem] theorem k_ik_156 : intOfT Tryd.prog 156 = none := by kernel_rfl
@[go_sem] theorem k_by_156 : bytesOfT Tryd.prog 156 = 16 := by kernel_rfl
@[go_sem] theorem k_el_156 : elemOf Tryd.prog 156 = none := by kernel_rfl
@[go_sem] theorem k_ze_156 : zeroOf Tryd.prog 156 = some [.int .i32 0, .int .u16 0, .int .u16 0, .int .u32 0, .int .u32 0] := by kernel_rfl
@[go_sem] theorem k_fi_156_0 : fieldOf Tryd.prog 156 0 = some (0, 144) := by kernel_rfl
@[go_sem] theorem k_fi_156_1 : fieldOf Tryd.prog 156 1 = some (1, 154) := by kernel_rfl
@[go_sem] theorem k_fi_156_2 : fieldOf Tryd.prog 156 2 = some (2, 154) := by kernel_rfl
@[go_sem] theorem k_fi_156_3 : fieldOf Tryd.prog 156 3 = some (3, 122) := by kernel_rfl
@[go_sem] theorem k_fi_156_4 : fieldOf Tryd.prog 156 4 = some (4, 122) := by kernel_rfl
@[go_sem] theorem k_pl_156 : placesOf Tryd.prog 156 = some [(0, 1), (1, 1), (2, 1), (3, 1), (4, 1)] := by kernel_rfl
@[go_sem] theorem k_sz_157 : szOf Tryd.prog 157 = some 1 := by kernel_rfl
@[go_sem] theorem k_nz_157 : nzOf Tryd.prog 157 = true := by kernel_rfl
@[go_sem] theorem k_ag_157 : aggOf Tryd.prog 157 = some false := by kernel_rfl
@[go_sem] theorem k_us_157 : (Tryd.prog.underlying 157).isSome = true := by kernel_rfl
@[go_sem] theorem k_cc_157 : concreteT Tryd.prog 157 = true := by kernel_rfl
@[go_sem] theorem k_st_157 : strOfT Tryd.prog 157 = false := by kernel_rfl
@[go_sem] theorem k_ik_157 : intOfT Tryd.prog 157 = none := by kernel_rfl
@[go_sem] theorem k_by_157 : bytesOfT Tryd.prog 157 = 24 := by kernel_rfl
@[go_sem] theorem k_el_157 : elemOf Tryd.prog 157 = some 160 := by kernel_rfl
@[go_sem] theorem k_ze_157 : zeroOf Tryd.prog 157 = some [.slice none 0 0] := by kernel_rfl
@[go_sem] theorem k_sz_158 : szOf Tryd.prog 158 = some 1 := by kernel_rfl
@[go_sem] theorem k_nz_158 : nzOf Tryd.prog 158 = true := by kernel_rfl
@[go_sem] theorem k_ag_158 : aggOf Tryd.prog 158 = some false := by kernel_rfl
@[go_sem] theorem k_us_158 : (Tryd.prog.underlying 158).isSome = true := by kernel_rfl
@[go_sem] theorem k_cc_158 : concreteT Tryd.prog 158 = true := by kernel_rfl
@[go_sem] theorem k_st_158 : strOfT Tryd.prog 158 = false := by kernel_rfl
@[go_sem] theorem k_ik_158 : intOfT Tryd.prog 158 = some .i32 := by kernel_rfl
@[go_sem] theorem k_by_158 : bytesOfT Tryd.prog 158 = 4 := by kernel_rfl
@[go_sem] theorem k_el_158 : elemOf Tryd.prog 158 = none := by kernel_rfl
@[go_sem] theorem k_ze_158 : zeroOf Tryd.prog 158 = some [.int .i32 0] := by kernel_rfl
@[go_sem] theorem k_sz_159 : szOf Tryd.prog 159 = some 4 := by kernel_rfl
@[go_sem] theorem k_nz_159 : nzOf Tryd.prog 159 = true := by kernel_rfl
@[go_sem] theorem k_ag_159 : aggOf Tryd.prog 159 = some true := by kernel_rfl
@[go_sem] theorem k_us_159 : (Tryd.prog.underlying 159).isSome = true := by kernel_rfl
@[go_sem] theorem k_cc_159 : concreteT Tryd.prog 159 = true := by kernel_rfl
@[go_sem] theorem k_st_159 : strOfT Tryd.prog 159 = false := by kernel_rfl
@[go_sem] theorem k_ik_159 : intOfT Tryd.prog 159 = none := by kernel_rfl
@[go_sem] theorem k_by_159 : bytesOfT Tryd.prog 159 = 16 := by kernel_rfl
@[go_sem] theorem k_el_159 : elemOf Tryd.prog 159 = none := by kernel_rfl
@[go_sem] theorem k_ze_159 : zeroOf Tryd.prog 159 = some [.int .i32 0, .int .i32 0, .int .i32 0, .int .i32 0] := by kernel_rfl
@[go_sem] theorem k_fi_159_0 : fieldOf Tryd.prog 159 0 = some (0, 144) := by kernel_rfl
@[go_sem] theorem k_fi_159_1 : fieldOf Tryd.prog 159 1 = some (1, 145) := by kernel_rfl
@[go_sem] theorem k_fi_159_2 : fieldOf Tryd.prog 159 2 = some (2, 158) := by kernel_rfl
@[go_sem] theorem k_fi_159_3 : fieldOf Tryd.prog 159 3 = some (3, 158) := by kernel_rfl
@[go_sem] theorem k_pl_159 : placesOf Tryd.prog 159 = some [(0, 1), (1, 1), (2, 1), (3, 1)] := by kernel_rfl
@[go_sem] theorem k_sz_160 : szOf Tryd.prog 160 = some 4 := by kernel_rfl
@[go_sem] theorem k_nz_160 : nzOf Tryd.prog 160 = true := by kernel_rfl
@[go_sem] theorem k_ag_160 : aggOf Tryd.prog 160 = some true := by kernel_rfl
@[go_sem] theorem k_us_160 : (Tryd.prog.underlying 160).isSome = true := by kernel_rfl
@[go_sem] theorem k_cc_160 : concreteT Tryd.prog 160 = true := by kernel_rfl
@[go_sem] theorem k_st_160 : strOfT Tryd.prog 160 = false := by kernel_rfl
@[go_sem] theorem k_ik_160 : intOfT Tryd.prog 160 = none := by kernel_rfl
@[go_sem] theorem k_by_160 : bytesOfT Tryd.prog 160 = 16 := by kernel_rfl
@[go_sem] theorem k_el_160 : elemOf Tryd.prog 160 = none := by kernel_rfl
@[go_sem] theorem k_ze_160 : zeroOf Tryd.prog 160 = some [.int .i32 0, .int .i32 0, .int .i32 0, .int .i32 0] := by kernel_rfl
@[go_sem] theorem k_fi_160_0 : fieldOf Tryd.prog 160 0 = some (0, 144) := by kernel_rfl
@[go_sem] theorem k_fi_160_1 : fieldOf Tryd.prog 160 1 = some (1, 145) := by kernel_rfl
@[go_sem] theorem k_fi_160_2 : fieldOf Tryd.prog 160 2 = some (2, 158) := by kernel_rfl
@[go_sem] theorem k_fi_160_3 : fieldOf Tryd.prog 160 3 = some (3, 158) := by kernel_rfl
@[go_sem] theorem k_pl_160 : placesOf Tryd.prog 160 = some [(0, 1), (1, 1), (2, 1), (3, 1)] := by kernel_rfl
@[go_sem] theorem k_sz_161 : szOf Tryd.prog 161 = some 1 := by kernel_rfl
@[go_sem] theorem k_nz_161 : nzOf Tryd.prog 161 = true := by kernel_rfl
@[go_sem] theorem k_ag_161 : aggOf Tryd.prog 161 = some false := by kernel_rfl
@[go_sem] theorem k_us_161 : (Tryd.prog.underlying 161).isSome = true := by kernel_rfl
@[go_sem] theorem k_cc_161 : concreteT Tryd.prog 161 = true := by kernel_rfl
@[go_sem] theorem k_st_161 : strOfT Tryd.prog 161 = false := by kernel_rfl
@[go_sem] theorem k_ik_161 : intOfT Tryd.prog 161 = none := by kernel_rfl
@[go_sem] theorem k_by_161 : bytesOfT Tryd.prog 161 = 8 := by kernel_rfl
@[go_sem] theorem k_el_161 : elemOf Tryd.prog 161 = none := by kernel_rfl
@[go_sem] theorem k_ze_161 : zeroOf Tryd.prog 161 = some [.pointer none] := by kernel_rfl
@[go_sem] theorem k_mp_67 : mapOfT Tryd.prog 67 = some (.i64, 3) := by kernel_rfl
@[go_sem] theorem k_zv_3 : zeroVal Tryd.prog 3 = some (.int .i64 0) := by kernel_rfl
@[go_sem] theorem k_ok_0 : callOk Tryd.prog 0 = false := by kernel_rfl
@[go_sem] theorem k_ok_1 : callOk Tryd.prog 1 = false := by kernel_rfl
@[go_sem] theorem k_ok_2 : callOk Tryd.prog 2 = true := by kernel_rfl
@[go_sem] theorem k_ok_3 : callOk Tryd.prog 3 = true := by kernel_rfl
@[go_sem] theorem k_ok_4 : callOk Tryd.prog 4 = true := by kernel_rfl
@[go_sem] theorem k_ok_5 : callOk Tryd.prog 5 = true := by kernel_rfl
@[go_sem] theorem k_ok_6 : callOk Tryd.prog 6 = true := by kernel_rfl
@[go_sem] theorem k_ok_7 : callOk Tryd.prog 7 = true := by kernel_rfl
@[go_sem] theorem k_ok_8 : callOk Tryd.prog 8 = true := by kernel_rfl
@[go_sem] theorem k_ok_9 : callOk Tryd.prog 9 = true := by kernel_rfl
@[go_sem] theorem k_ok_10 : callOk Tryd.prog 10 = true := by kernel_rfl
@[go_sem] theorem k_ok_11 : callOk Tryd.prog 11 = true := by kernel_rfl
@[go_sem] theorem k_ok_12 : callOk Tryd.prog 12 = true := by kernel_rfl
@[go_sem] theorem k_ok_13 : callOk Tryd.prog 13 = true := by kernel_rfl
@[go_sem] theorem k_ok_14 : callOk Tryd.prog 14 = true := by kernel_rfl
@[go_sem] theorem k_ok_15 : callOk Tryd.prog 15 = true := by kernel_rfl
@[go_sem] theorem k_ok_16 : callOk Tryd.prog 16 = true := by kernel_rfl
@[go_sem] theorem k_ok_17 : callOk Tryd.prog 17 = true := by kernel_rfl
@[go_sem] theorem k_ok_18 : callOk Tryd.prog 18 = true := by kernel_rfl
@[go_sem] theorem k_ok_19 : callOk Tryd.prog 19 = true := by kernel_rfl
@[go_sem] theorem k_ok_20 : callOk Tryd.prog 20 = true := by kernel_rfl
@[go_sem] theorem k_ok_21 : callOk Tryd.prog 21 = true := by kernel_rfl
@[go_sem] theorem k_ok_22 : callOk Tryd.prog 22 = true := by kernel_rfl
@[go_sem] theorem k_ok_23 : callOk Tryd.prog 23 = true := by kernel_rfl
@[go_sem] theorem k_ok_24 : callOk Tryd.prog 24 = true := by kernel_rfl
@[go_sem] theorem k_ok_25 : callOk Tryd.prog 25 = true := by kernel_rfl
@[go_sem] theorem k_ok_26 : callOk Tryd.prog 26 = true := by kernel_rfl
@[go_sem] theorem k_ok_27 : callOk Tryd.prog 27 = true := by kernel_rfl
@[go_sem] theorem k_ok_28 : callOk Tryd.prog 28 = true := by kernel_rfl
@[go_sem] theorem k_ok_29 : callOk Tryd.prog 29 = true := by kernel_rfl
@[go_sem] theorem k_ok_30 : callOk Tryd.prog 30 = true := by kernel_rfl
@[go_sem] theorem k_ok_31 : callOk Tryd.prog 31 = true := by kernel_rfl
@[go_sem] theorem k_ok_32 : callOk Tryd.prog 32 = true := by kernel_rfl
@[go_sem] theorem k_ok_33 : callOk Tryd.prog 33 = false := by kernel_rfl
@[go_sem] theorem k_ok_34 : callOk Tryd.prog 34 = false := by kernel_rfl
@[go_sem] theorem k_ok_35 : callOk Tryd.prog 35 = false := by kernel_rfl
@[go_sem] theorem k_ok_36 : callOk Tryd.prog 36 = true := by kernel_rfl
@[go_sem] theorem k_ok_37 : callOk Tryd.prog 37 = false := by kernel_rfl
@[go_sem] theorem k_ok_38 : callOk Tryd.prog 38 = true := by kernel_rfl
@[go_sem] theorem k_ok_39 : callOk Tryd.prog 39 = true := by kernel_rfl
@[go_sem] theorem k_ok_40 : callOk Tryd.prog 40 = true := by kernel_rfl
@[go_sem] theorem k_ok_41 : callOk Tryd.prog 41 = true := by kernel_rfl
@[go_sem] theorem k_ok_42 : callOk Tryd.prog 42 = true := by kernel_rfl
@[go_sem] theorem k_ok_43 : callOk Tryd.prog 43 = true := by kernel_rfl
@[go_sem] theorem k_ok_44 : callOk Tryd.prog 44 = false := by kernel_rfl
@[go_sem] theorem k_ok_45 : callOk Tryd.prog 45 = false := by kernel_rfl
@[go_sem] theorem k_ok_46 : callOk Tryd.prog 46 = true := by kernel_rfl
@[go_sem] theorem k_ok_47 : callOk Tryd.prog 47 = true := by kernel_rfl
@[go_sem] theorem k_ok_48 : callOk Tryd.prog 48 = true := by kernel_rfl
@[go_sem] theorem k_ok_49 : callOk Tryd.prog 49 = true := by kernel_rfl
@[go_sem] theorem k_ok_50 : callOk Tryd.prog 50 = true := by kernel_rfl
@[go_sem] theorem k_ok_51 : callOk Tryd.prog 51 = true := by kernel_rfl
@[go_sem] theorem k_ok_52 : callOk Tryd.prog 52 = true := by kernel_rfl
@[go_sem] theorem k_ok_53 : callOk Tryd.prog 53 = true := by kernel_rfl
@[go_sem] theorem k_ok_54 : callOk Tryd.prog 54 = true := by kernel_rfl
@[go_sem] theorem k_ok_55 : callOk Tryd.prog 55 = true := by kernel_rfl
@[go_sem] theorem k_ok_56 : callOk Tryd.prog 56 = true := by kernel_rfl
@[go_sem] theorem k_ok_57 : callOk Tryd.prog 57 = true := by kernel_rfl
@[go_sem] theorem k_ok_58 : callOk Tryd.prog 58 = true := by kernel_rfl
@[go_sem] theorem k_ok_59 : callOk Tryd.prog 59 = true := by kernel_rfl
@[go_sem] theorem k_ok_60 : callOk Tryd.prog 60 = true := by kernel_rfl
@[go_sem] theorem k_ok_61 : callOk Tryd.prog 61 = true := by kernel_rfl
@[go_sem] theorem k_ok_62 : callOk Tryd.prog 62 = true := by kernel_rfl
@[go_sem] theorem k_ok_63 : callOk Tryd.prog 63 = true := by kernel_rfl
@[go_sem] theorem k_ok_64 : callOk Tryd.prog 64 = true := by kernel_rfl
@[go_sem] theorem k_ok_65 : callOk Tryd.prog 65 = true := by kernel_rfl
@[go_sem] theorem k_ok_66 : callOk Tryd.prog 66 = true := by kernel_rfl
@[go_sem] theorem k_ok_67 : callOk Tryd.prog 67 = true := by kernel_rfl
@[go_sem] theorem k_ok_68 : callOk Tryd.prog 68 = true := by kernel_rfl
@[go_sem] theorem k_ok_69 : callOk Tryd.prog 69 = true := by kernel_rfl
@[go_sem] theorem k_ok_70 : callOk Tryd.prog 70 = false := by kernel_rfl
@[go_sem] theorem k_ok_71 : callOk Tryd.prog 71 = false := by kernel_rfl
@[go_sem] theorem k_ok_72 : callOk Tryd.prog 72 = false := by kernel_rfl
@[go_sem] theorem k_ok_73 : callOk Tryd.prog 73 = false := by kernel_rfl
@[go_sem] theorem k_ok_74 : callOk Tryd.prog 74 = false := by kernel_rfl
@[go_sem] theorem k_ok_75 : callOk Tryd.prog 75 = false := by kernel_rfl
@[go_sem] theorem k_ok_76 : callOk Tryd.prog 76 = false := by kernel_rfl
@[go_sem] theorem k_ok_77 : callOk Tryd.prog 77 = false := by kernel_rfl
@[go_sem] theorem k_ok_78 : callOk Tryd.prog 78 = false := by kernel_rfl
@[go_sem] theorem k_ok_79 : callOk Tryd.prog 79 = false := by kernel_rfl
@[go_sem] theorem k_ok_80 : callOk Tryd.prog 80 = false := by kernel_rfl
@[go_sem] theorem k_ok_81 : callOk Tryd.prog 81 = false := by kernel_rfl
@[go_sem] theorem k_ok_82 : callOk Tryd.prog 82 = false := by kernel_rfl
@[go_sem] theorem k_ok_83 : callOk Tryd.prog 83 = false := by kernel_rfl
@[go_sem] theorem k_ok_84 : callOk Tryd.prog 84 = false := by kernel_rfl
@[go_sem] theorem k_ok_85 : callOk Tryd.prog 85 = false := by kernel_rfl
@[go_sem] theorem k_ok_86 : callOk Tryd.prog 86 = false := by kernel_rfl
@[go_sem] theorem k_ok_87 : callOk Tryd.prog 87 = false := by kernel_rfl
@[go_sem] theorem k_ok_88 : callOk Tryd.prog 88 = false := by kernel_rfl
@[go_sem] theorem k_ok_89 : callOk Tryd.prog 89 = true := by kernel_rfl
@[go_sem] theorem k_ok_90 : callOk Tryd.prog 90 = false := by kernel_rfl
@[go_sem] theorem k_ok_91 : callOk Tryd.prog 91 = false := by kernel_rfl
@[go_sem] theorem k_ok_92 : callOk Tryd.prog 92 = false := by kernel_rfl
@[go_sem] theorem k_ok_93 : callOk Tryd.prog 93 = false := by kernel_rfl
@[go_sem] theorem k_ok_94 : callOk Tryd.prog 94 = false := by kernel_rfl
@[go_sem] theorem k_ok_95 : callOk Tryd.prog 95 = false := by kernel_rfl
@[go_sem] theorem k_ok_96 : callOk Tryd.prog 96 = false := by kernel_rfl
@[go_sem] theorem k_ok_97 : callOk Tryd.prog 97 = false := by kernel_rfl
@[go_sem] theorem k_ok_98 : callOk Tryd.prog 98 = false := by kernel_rfl
@[go_sem] theorem k_ok_99 : callOk Tryd.prog 99 = false := by kernel_rfl
@[go_sem] theorem k_ok_100 : callOk Tryd.prog 100 = false := by kernel_rfl
@[go_sem] theorem k_ok_101 : callOk Tryd.prog 101 = false := by kernel_rfl
@[go_sem] theorem k_ok_102 : callOk Tryd.prog 102 = false := by kernel_rfl
@[go_sem] theorem k_ok_103 : callOk Tryd.prog 103 = false := by kernel_rfl
@[go_sem] theorem k_ok_104 : callOk Tryd.prog 104 = false := by kernel_rfl
@[go_sem] theorem k_ok_105 : callOk Tryd.prog 105 = false := by kernel_rfl
@[go_sem] theorem k_ok_106 : callOk Tryd.prog 106 = false := by kernel_rfl
@[go_sem] theorem k_ok_107 : callOk Tryd.prog 107 = false := by kernel_rfl
@[go_sem] theorem k_ok_108 : callOk Tryd.prog 108 = true := by kernel_rfl
end Go.Proofs.YtijpbgflkdjcdaaDoor

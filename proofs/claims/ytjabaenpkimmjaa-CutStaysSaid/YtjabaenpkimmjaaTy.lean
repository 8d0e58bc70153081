/- What K asks of the types and functions of this seat, as closed facts. Printed by program. -/
import Derived.Test.YtjabaenpkimmjaaKL
import Derived.Test.YtjabaenpkimmjaaProg
namespace Go.Proofs.Ytjabaenpkimmjaa
set_option linter.unusedSimpArgs false
@[go_sem] theorem k_sz_0 : szOf Try.prog 0 = some 1 := by kernel_rfl
@[go_sem] theorem k_nz_0 : nzOf Try.prog 0 = true := by kernel_rfl
@[go_sem] theorem k_ag_0 : aggOf Try.prog 0 = some false := by kernel_rfl
@[go_sem] theorem k_us_0 : (Try.prog.underlying 0).isSome = true := by kernel_rfl
@[go_sem] theorem k_cc_0 : concreteT Try.prog 0 = true := by kernel_rfl
@[go_sem] theorem k_st_0 : strOfT Try.prog 0 = false := by kernel_rfl
@[go_sem] theorem k_ik_0 : intOfT Try.prog 0 = none := by kernel_rfl
@[go_sem] theorem k_by_0 : bytesOfT Try.prog 0 = 0 := by kernel_rfl
@[go_sem] theorem k_el_0 : elemOf Try.prog 0 = none := by kernel_rfl
@[go_sem] theorem k_sz_1 : szOf Try.prog 1 = some 1 := by kernel_rfl
@[go_sem] theorem k_nz_1 : nzOf Try.prog 1 = true := by kernel_rfl
@[go_sem] theorem k_ag_1 : aggOf Try.prog 1 = some false := by kernel_rfl
@[go_sem] theorem k_us_1 : (Try.prog.underlying 1).isSome = true := by kernel_rfl
@[go_sem] theorem k_cc_1 : concreteT Try.prog 1 = true := by kernel_rfl
@[go_sem] theorem k_st_1 : strOfT Try.prog 1 = false := by kernel_rfl
@[go_sem] theorem k_ik_1 : intOfT Try.prog 1 = none := by kernel_rfl
@[go_sem] theorem k_by_1 : bytesOfT Try.prog 1 = 8 := by kernel_rfl
@[go_sem] theorem k_el_1 : elemOf Try.prog 1 = none := by kernel_rfl
@[go_sem] theorem k_ze_1 : zeroOf Try.prog 1 = some [.nilFunc] := by kernel_rfl
@[go_sem] theorem k_sz_2 : szOf Try.prog 2 = some 1 := by kernel_rfl
@[go_sem] theorem k_nz_2 : nzOf Try.prog 2 = true := by kernel_rfl
@[go_sem] theorem k_ag_2 : aggOf Try.prog 2 = some false := by kernel_rfl
@[go_sem] theorem k_us_2 : (Try.prog.underlying 2).isSome = true := by kernel_rfl
@[go_sem] theorem k_cc_2 : concreteT Try.prog 2 = true := by kernel_rfl
@[go_sem] theorem k_st_2 : strOfT Try.prog 2 = false := by kernel_rfl
@[go_sem] theorem k_ik_2 : intOfT Try.prog 2 = some .i64 := by kernel_rfl
@[go_sem] theorem k_by_2 : bytesOfT Try.prog 2 = 8 := by kernel_rfl
@[go_sem] theorem k_el_2 : elemOf Try.prog 2 = none := by kernel_rfl
@[go_sem] theorem k_ze_2 : zeroOf Try.prog 2 = some [.int .i64 0] := by kernel_rfl
@[go_sem] theorem k_sz_3 : szOf Try.prog 3 = some 1 := by kernel_rfl
@[go_sem] theorem k_nz_3 : nzOf Try.prog 3 = true := by kernel_rfl
@[go_sem] theorem k_ag_3 : aggOf Try.prog 3 = some false := by kernel_rfl
@[go_sem] theorem k_us_3 : (Try.prog.underlying 3).isSome = true := by kernel_rfl
@[go_sem] theorem k_cc_3 : concreteT Try.prog 3 = true := by kernel_rfl
@[go_sem] theorem k_st_3 : strOfT Try.prog 3 = false := by kernel_rfl
@[go_sem] theorem k_ik_3 : intOfT Try.prog 3 = some .i64 := by kernel_rfl
@[go_sem] theorem k_by_3 : bytesOfT Try.prog 3 = 8 := by kernel_rfl
@[go_sem] theorem k_el_3 : elemOf Try.prog 3 = none := by kernel_rfl
@[go_sem] theorem k_ze_3 : zeroOf Try.prog 3 = some [.int .i64 0] := by kernel_rfl
@[go_sem] theorem k_sz_4 : szOf Try.prog 4 = some 1 := by kernel_rfl
@[go_sem] theorem k_nz_4 : nzOf Try.prog 4 = true := by kernel_rfl
@[go_sem] theorem k_ag_4 : aggOf Try.prog 4 = some false := by kernel_rfl
@[go_sem] theorem k_us_4 : (Try.prog.underlying 4).isSome = true := by kernel_rfl
@[go_sem] theorem k_cc_4 : concreteT Try.prog 4 = true := by kernel_rfl
@[go_sem] theorem k_st_4 : strOfT Try.prog 4 = false := by kernel_rfl
@[go_sem] theorem k_ik_4 : intOfT Try.prog 4 = none := by kernel_rfl
@[go_sem] theorem k_by_4 : bytesOfT Try.prog 4 = 1 := by kernel_rfl
@[go_sem] theorem k_el_4 : elemOf Try.prog 4 = none := by kernel_rfl
@[go_sem] theorem k_ze_4 : zeroOf Try.prog 4 = some [.bool false] := by kernel_rfl
@[go_sem] theorem k_sz_5 : szOf Try.prog 5 = some 1 := by kernel_rfl
@[go_sem] theorem k_nz_5 : nzOf Try.prog 5 = true := by kernel_rfl
@[go_sem] theorem k_ag_5 : aggOf Try.prog 5 = some false := by kernel_rfl
@[go_sem] theorem k_us_5 : (Try.prog.underlying 5).isSome = true := by kernel_rfl
@[go_sem] theorem k_cc_5 : concreteT Try.prog 5 = true := by kernel_rfl
@[go_sem] theorem k_st_5 : strOfT Try.prog 5 = false := by kernel_rfl
@[go_sem] theorem k_ik_5 : intOfT Try.prog 5 = some .u8 := by kernel_rfl
@[go_sem] theorem k_by_5 : bytesOfT Try.prog 5 = 1 := by kernel_rfl
@[go_sem] theorem k_el_5 : elemOf Try.prog 5 = none := by kernel_rfl
@[go_sem] theorem k_ze_5 : zeroOf Try.prog 5 = some [.int .u8 0] := by kernel_rfl
@[go_sem] theorem k_sz_6 : szOf Try.prog 6 = some 1 := by kernel_rfl
@[go_sem] theorem k_nz_6 : nzOf Try.prog 6 = true := by kernel_rfl
@[go_sem] theorem k_ag_6 : aggOf Try.prog 6 = some false := by kernel_rfl
@[go_sem] theorem k_us_6 : (Try.prog.underlying 6).isSome = true := by kernel_rfl
@[go_sem] theorem k_cc_6 : concreteT Try.prog 6 = true := by kernel_rfl
@[go_sem] theorem k_st_6 : strOfT Try.prog 6 = false := by kernel_rfl
@[go_sem] theorem k_ik_6 : intOfT Try.prog 6 = some .u8 := by kernel_rfl
@[go_sem] theorem k_by_6 : bytesOfT Try.prog 6 = 1 := by kernel_rfl
@[go_sem] theorem k_el_6 : elemOf Try.prog 6 = none := by kernel_rfl
@[go_sem] theorem k_ze_6 : zeroOf Try.prog 6 = some [.int .u8 0] := by kernel_rfl
@[go_sem] theorem k_sz_7 : szOf Try.prog 7 = some 4 := by kernel_rfl
@[go_sem] theorem k_nz_7 : nzOf Try.prog 7 = true := by kernel_rfl
@[go_sem] theorem k_ag_7 : aggOf Try.prog 7 = some true := by kernel_rfl
@[go_sem] theorem k_us_7 : (Try.prog.underlying 7).isSome = true := by kernel_rfl
@[go_sem] theorem k_cc_7 : concreteT Try.prog 7 = true := by kernel_rfl
@[go_sem] theorem k_st_7 : strOfT Try.prog 7 = false := by kernel_rfl
@[go_sem] theorem k_ik_7 : intOfT Try.prog 7 = none := by kernel_rfl
@[go_sem] theorem k_by_7 : bytesOfT Try.prog 7 = 24 := by kernel_rfl
@[go_sem] theorem k_el_7 : elemOf Try.prog 7 = none := by kernel_rfl
@[go_sem] theorem k_ze_7 : zeroOf Try.prog 7 = some [.int .i64 0, .int .i64 0, .bool false, .int .u8 0] := by kernel_rfl
@[go_sem] theorem k_fi_7_0 : fieldOf Try.prog 7 0 = some (0, 2) := by kernel_rfl
@[go_sem] theorem k_fi_7_1 : fieldOf Try.prog 7 1 = some (1, 3) := by kernel_rfl
@[go_sem] theorem k_fi_7_2 : fieldOf Try.prog 7 2 = some (2, 4) := by kernel_rfl
@[go_sem] theorem k_fi_7_3 : fieldOf Try.prog 7 3 = some (3, 6) := by kernel_rfl
@[go_sem] theorem k_pl_7 : placesOf Try.prog 7 = some [(0, 1), (1, 1), (2, 1), (3, 1)] := by kernel_rfl
@[go_sem] theorem k_sz_8 : szOf Try.prog 8 = some 4 := by kernel_rfl
@[go_sem] theorem k_nz_8 : nzOf Try.prog 8 = true := by kernel_rfl
@[go_sem] theorem k_ag_8 : aggOf Try.prog 8 = some true := by kernel_rfl
@[go_sem] theorem k_us_8 : (Try.prog.underlying 8).isSome = true := by kernel_rfl
@[go_sem] theorem k_cc_8 : concreteT Try.prog 8 = true := by kernel_rfl
@[go_sem] theorem k_st_8 : strOfT Try.prog 8 = false := by kernel_rfl
@[go_sem] theorem k_ik_8 : intOfT Try.prog 8 = none := by kernel_rfl
@[go_sem] theorem k_by_8 : bytesOfT Try.prog 8 = 24 := by kernel_rfl
@[go_sem] theorem k_el_8 : elemOf Try.prog 8 = none := by kernel_rfl
@[go_sem] theorem k_ze_8 : zeroOf Try.prog 8 = some [.int .i64 0, .int .i64 0, .bool false, .int .u8 0] := by kernel_rfl
@[go_sem] theorem k_fi_8_0 : fieldOf Try.prog 8 0 = some (0, 2) := by kernel_rfl
@[go_sem] theorem k_fi_8_1 : fieldOf Try.prog 8 1 = some (1, 3) := by kernel_rfl
@[go_sem] theorem k_fi_8_2 : fieldOf Try.prog 8 2 = some (2, 4) := by kernel_rfl
@[go_sem] theorem k_fi_8_3 : fieldOf Try.prog 8 3 = some (3, 6) := by kernel_rfl
@[go_sem] theorem k_pl_8 : placesOf Try.prog 8 = some [(0, 1), (1, 1), (2, 1), (3, 1)] := by kernel_rfl
@[go_sem] theorem k_sz_9 : szOf Try.prog 9 = some 1 := by kernel_rfl
@[go_sem] theorem k_nz_9 : nzOf Try.prog 9 = true := by kernel_rfl
@[go_sem] theorem k_ag_9 : aggOf Try.prog 9 = some false := by kernel_rfl
@[go_sem] theorem k_us_9 : (Try.prog.underlying 9).isSome = true := by kernel_rfl
@[go_sem] theorem k_cc_9 : concreteT Try.prog 9 = true := by kernel_rfl
@[go_sem] theorem k_st_9 : strOfT Try.prog 9 = true := by kernel_rfl
@[go_sem] theorem k_ik_9 : intOfT Try.prog 9 = none := by kernel_rfl
@[go_sem] theorem k_by_9 : bytesOfT Try.prog 9 = 16 := by kernel_rfl
@[go_sem] theorem k_el_9 : elemOf Try.prog 9 = none := by kernel_rfl
@[go_sem] theorem k_ze_9 : zeroOf Try.prog 9 = some [.string ⟨#[]⟩] := by kernel_rfl
@[go_sem] theorem k_sz_10 : szOf Try.prog 10 = some 1 := by kernel_rfl
@[go_sem] theorem k_nz_10 : nzOf Try.prog 10 = true := by kernel_rfl
@[go_sem] theorem k_ag_10 : aggOf Try.prog 10 = some false := by kernel_rfl
@[go_sem] theorem k_us_10 : (Try.prog.underlying 10).isSome = true := by kernel_rfl
@[go_sem] theorem k_cc_10 : concreteT Try.prog 10 = true := by kernel_rfl
@[go_sem] theorem k_st_10 : strOfT Try.prog 10 = true := by kernel_rfl
@[go_sem] theorem k_ik_10 : intOfT Try.prog 10 = none := by kernel_rfl
@[go_sem] theorem k_by_10 : bytesOfT Try.prog 10 = 16 := by kernel_rfl
@[go_sem] theorem k_el_10 : elemOf Try.prog 10 = none := by kernel_rfl
@[go_sem] theorem k_ze_10 : zeroOf Try.prog 10 = some [.string ⟨#[]⟩] := by kernel_rfl
@[go_sem] theorem k_sz_11 : szOf Try.prog 11 = some 1 := by kernel_rfl
@[go_sem] theorem k_nz_11 : nzOf Try.prog 11 = true := by kernel_rfl
@[go_sem] theorem k_ag_11 : aggOf Try.prog 11 = some false := by kernel_rfl
@[go_sem] theorem k_us_11 : (Try.prog.underlying 11).isSome = true := by kernel_rfl
@[go_sem] theorem k_cc_11 : concreteT Try.prog 11 = true := by kernel_rfl
@[go_sem] theorem k_st_11 : strOfT Try.prog 11 = true := by kernel_rfl
@[go_sem] theorem k_ik_11 : intOfT Try.prog 11 = none := by kernel_rfl
@[go_sem] theorem k_by_11 : bytesOfT Try.prog 11 = 16 := by kernel_rfl
@[go_sem] theorem k_el_11 : elemOf Try.prog 11 = none := by kernel_rfl
@[go_sem] theorem k_ze_11 : zeroOf Try.prog 11 = some [.string ⟨#[]⟩] := by kernel_rfl
@[go_sem] theorem k_sz_12 : szOf Try.prog 12 = some 1 := by kernel_rfl
@[go_sem] theorem k_nz_12 : nzOf Try.prog 12 = true := by kernel_rfl
@[go_sem] theorem k_ag_12 : aggOf Try.prog 12 = some false := by kernel_rfl
@[go_sem] theorem k_us_12 : (Try.prog.underlying 12).isSome = true := by kernel_rfl
@[go_sem] theorem k_cc_12 : concreteT Try.prog 12 = true := by kernel_rfl
@[go_sem] theorem k_st_12 : strOfT Try.prog 12 = false := by kernel_rfl
@[go_sem] theorem k_ik_12 : intOfT Try.prog 12 = some .u64 := by kernel_rfl
@[go_sem] theorem k_by_12 : bytesOfT Try.prog 12 = 8 := by kernel_rfl
@[go_sem] theorem k_el_12 : elemOf Try.prog 12 = none := by kernel_rfl
@[go_sem] theorem k_ze_12 : zeroOf Try.prog 12 = some [.int .u64 0] := by kernel_rfl
@[go_sem] theorem k_sz_13 : szOf Try.prog 13 = some 2 := by kernel_rfl
@[go_sem] theorem k_nz_13 : nzOf Try.prog 13 = true := by kernel_rfl
@[go_sem] theorem k_ag_13 : aggOf Try.prog 13 = some true := by kernel_rfl
@[go_sem] theorem k_us_13 : (Try.prog.underlying 13).isSome = true := by kernel_rfl
@[go_sem] theorem k_cc_13 : concreteT Try.prog 13 = true := by kernel_rfl
@[go_sem] theorem k_st_13 : strOfT Try.prog 13 = false := by kernel_rfl
@[go_sem] theorem k_ik_13 : intOfT Try.prog 13 = none := by kernel_rfl
@[go_sem] theorem k_by_13 : bytesOfT Try.prog 13 = 24 := by kernel_rfl
@[go_sem] theorem k_el_13 : elemOf Try.prog 13 = none := by kernel_rfl
@[go_sem] theorem k_ze_13 : zeroOf Try.prog 13 = some [.string ⟨#[]⟩, .int .u64 0] := by kernel_rfl
@[go_sem] theorem k_fi_13_0 : fieldOf Try.prog 13 0 = some (0, 9) := by kernel_rfl
@[go_sem] theorem k_fi_13_1 : fieldOf Try.prog 13 1 = some (1, 12) := by kernel_rfl
@[go_sem] theorem k_pl_13 : placesOf Try.prog 13 = some [(0, 1), (1, 1)] := by kernel_rfl
@[go_sem] theorem k_sz_14 : szOf Try.prog 14 = some 2 := by kernel_rfl
@[go_sem] theorem k_nz_14 : nzOf Try.prog 14 = true := by kernel_rfl
@[go_sem] theorem k_ag_14 : aggOf Try.prog 14 = some true := by kernel_rfl
@[go_sem] theorem k_us_14 : (Try.prog.underlying 14).isSome = true := by kernel_rfl
@[go_sem] theorem k_cc_14 : concreteT Try.prog 14 = true := by kernel_rfl
@[go_sem] theorem k_st_14 : strOfT Try.prog 14 = false := by kernel_rfl
@[go_sem] theorem k_ik_14 : intOfT Try.prog 14 = none := by kernel_rfl
@[go_sem] theorem k_by_14 : bytesOfT Try.prog 14 = 24 := by kernel_rfl
@[go_sem] theorem k_el_14 : elemOf Try.prog 14 = none := by kernel_rfl
@[go_sem] theorem k_ze_14 : zeroOf Try.prog 14 = some [.string ⟨#[]⟩, .int .u64 0] := by kernel_rfl
@[go_sem] theorem k_fi_14_0 : fieldOf Try.prog 14 0 = some (0, 9) := by kernel_rfl
@[go_sem] theorem k_fi_14_1 : fieldOf Try.prog 14 1 = some (1, 12) := by kernel_rfl
@[go_sem] theorem k_pl_14 : placesOf Try.prog 14 = some [(0, 1), (1, 1)] := by kernel_rfl
@[go_sem] theorem k_sz_15 : szOf Try.prog 15 = some 1 := by kernel_rfl
@[go_sem] theorem k_nz_15 : nzOf Try.prog 15 = true := by kernel_rfl
@[go_sem] theorem k_ag_15 : aggOf Try.prog 15 = some false := by kernel_rfl
@[go_sem] theorem k_us_15 : (Try.prog.underlying 15).isSome = true := by kernel_rfl
@[go_sem] theorem k_cc_15 : concreteT Try.prog 15 = true := by kernel_rfl
@[go_sem] theorem k_st_15 : strOfT Try.prog 15 = false := by kernel_rfl
@[go_sem] theorem k_ik_15 : intOfT Try.prog 15 = none := by kernel_rfl
@[go_sem] theorem k_by_15 : bytesOfT Try.prog 15 = 8 := by kernel_rfl
@[go_sem] theorem k_el_15 : elemOf Try.prog 15 = none := by kernel_rfl
@[go_sem] theorem k_ze_15 : zeroOf Try.prog 15 = some [.pointer none] := by kernel_rfl
@[go_sem] theorem k_sz_16 : szOf Try.prog 16 = some 1 := by kernel_rfl
@[go_sem] theorem k_nz_16 : nzOf Try.prog 16 = true := by kernel_rfl
@[go_sem] theorem k_ag_16 : aggOf Try.prog 16 = some false := by kernel_rfl
@[go_sem] theorem k_us_16 : (Try.prog.underlying 16).isSome = true := by kernel_rfl
@[go_sem] theorem k_cc_16 : concreteT Try.prog 16 = true := by kernel_rfl
@[go_sem] theorem k_st_16 : strOfT Try.prog 16 = false := by kernel_rfl
@[go_sem] theorem k_ik_16 : intOfT Try.prog 16 = none := by kernel_rfl
@[go_sem] theorem k_by_16 : bytesOfT Try.prog 16 = 8 := by kernel_rfl
@[go_sem] theorem k_el_16 : elemOf Try.prog 16 = none := by kernel_rfl
@[go_sem] theorem k_ze_16 : zeroOf Try.prog 16 = some [.pointer none] := by kernel_rfl
@[go_sem] theorem k_sz_17 : szOf Try.prog 17 = some 1 := by kernel_rfl
@[go_sem] theorem k_nz_17 : nzOf Try.prog 17 = true := by kernel_rfl
@[go_sem] theorem k_ag_17 : aggOf Try.prog 17 = some false := by kernel_rfl
@[go_sem] theorem k_us_17 : (Try.prog.underlying 17).isSome = true := by kernel_rfl
@[go_sem] theorem k_cc_17 : concreteT Try.prog 17 = true := by kernel_rfl
@[go_sem] theorem k_st_17 : strOfT Try.prog 17 = false := by kernel_rfl
@[go_sem] theorem k_ik_17 : intOfT Try.prog 17 = none := by kernel_rfl
@[go_sem] theorem k_by_17 : bytesOfT Try.prog 17 = 8 := by kernel_rfl
@[go_sem] theorem k_el_17 : elemOf Try.prog 17 = none := by kernel_rfl
@[go_sem] theorem k_ze_17 : zeroOf Try.prog 17 = some [.pointer none] := by kernel_rfl
@[go_sem] theorem k_sz_18 : szOf Try.prog 18 = some 1 := by kernel_rfl
@[go_sem] theorem k_nz_18 : nzOf Try.prog 18 = true := by kernel_rfl
@[go_sem] theorem k_ag_18 : aggOf Try.prog 18 = some true := by kernel_rfl
@[go_sem] theorem k_us_18 : (Try.prog.underlying 18).isSome = true := by kernel_rfl
@[go_sem] theorem k_cc_18 : concreteT Try.prog 18 = true := by kernel_rfl
@[go_sem] theorem k_st_18 : strOfT Try.prog 18 = false := by kernel_rfl
@[go_sem] theorem k_ik_18 : intOfT Try.prog 18 = none := by kernel_rfl
@[go_sem] theorem k_by_18 : bytesOfT Try.prog 18 = 8 := by kernel_rfl
@[go_sem] theorem k_el_18 : elemOf Try.prog 18 = none := by kernel_rfl
@[go_sem] theorem k_ze_18 : zeroOf Try.prog 18 = some [.pointer none] := by kernel_rfl
@[go_sem] theorem k_fi_18_0 : fieldOf Try.prog 18 0 = some (0, 17) := by kernel_rfl
@[go_sem] theorem k_pl_18 : placesOf Try.prog 18 = some [(0, 1)] := by kernel_rfl
@[go_sem] theorem k_sz_19 : szOf Try.prog 19 = some 1 := by kernel_rfl
@[go_sem] theorem k_nz_19 : nzOf Try.prog 19 = true := by kernel_rfl
@[go_sem] theorem k_ag_19 : aggOf Try.prog 19 = some true := by kernel_rfl
@[go_sem] theorem k_us_19 : (Try.prog.underlying 19).isSome = true := by kernel_rfl
@[go_sem] theorem k_cc_19 : concreteT Try.prog 19 = true := by kernel_rfl
@[go_sem] theorem k_st_19 : strOfT Try.prog 19 = false := by kernel_rfl
@[go_sem] theorem k_ik_19 : intOfT Try.prog 19 = none := by kernel_rfl
@[go_sem] theorem k_by_19 : bytesOfT Try.prog 19 = 8 := by kernel_rfl
@[go_sem] theorem k_el_19 : elemOf Try.prog 19 = none := by kernel_rfl
@[go_sem] theorem k_ze_19 : zeroOf Try.prog 19 = some [.pointer none] := by kernel_rfl
@[go_sem] theorem k_fi_19_0 : fieldOf Try.prog 19 0 = some (0, 17) := by kernel_rfl
@[go_sem] theorem k_pl_19 : placesOf Try.prog 19 = some [(0, 1)] := by kernel_rfl
@[go_sem] theorem k_sz_20 : szOf Try.prog 20 = some 1 := by kernel_rfl
@[go_sem] theorem k_nz_20 : nzOf Try.prog 20 = true := by kernel_rfl
@[go_sem] theorem k_ag_20 : aggOf Try.prog 20 = some false := by kernel_rfl
@[go_sem] theorem k_us_20 : (Try.prog.underlying 20).isSome = true := by kernel_rfl
@[go_sem] theorem k_cc_20 : concreteT Try.prog 20 = false := by kernel_rfl
@[go_sem] theorem k_st_20 : strOfT Try.prog 20 = false := by kernel_rfl
@[go_sem] theorem k_ik_20 : intOfT Try.prog 20 = none := by kernel_rfl
@[go_sem] theorem k_by_20 : bytesOfT Try.prog 20 = 16 := by kernel_rfl
@[go_sem] theorem k_el_20 : elemOf Try.prog 20 = none := by kernel_rfl
@[go_sem] theorem k_ze_20 : zeroOf Try.prog 20 = some [.nilIface] := by kernel_rfl
@[go_sem] theorem k_sz_21 : szOf Try.prog 21 = some 1 := by kernel_rfl
@[go_sem] theorem k_nz_21 : nzOf Try.prog 21 = true := by kernel_rfl
@[go_sem] theorem k_ag_21 : aggOf Try.prog 21 = some false := by kernel_rfl
@[go_sem] theorem k_us_21 : (Try.prog.underlying 21).isSome = true := by kernel_rfl
@[go_sem] theorem k_cc_21 : concreteT Try.prog 21 = true := by kernel_rfl
@[go_sem] theorem k_st_21 : strOfT Try.prog 21 = false := by kernel_rfl
@[go_sem] theorem k_ik_21 : intOfT Try.prog 21 = some .i32 := by kernel_rfl
@[go_sem] theorem k_by_21 : bytesOfT Try.prog 21 = 4 := by kernel_rfl
@[go_sem] theorem k_el_21 : elemOf Try.prog 21 = none := by kernel_rfl
@[go_sem] theorem k_ze_21 : zeroOf Try.prog 21 = some [.int .i32 0] := by kernel_rfl
@[go_sem] theorem k_sz_22 : szOf Try.prog 22 = some 1 := by kernel_rfl
@[go_sem] theorem k_nz_22 : nzOf Try.prog 22 = true := by kernel_rfl
@[go_sem] theorem k_ag_22 : aggOf Try.prog 22 = some false := by kernel_rfl
@[go_sem] theorem k_us_22 : (Try.prog.underlying 22).isSome = true := by kernel_rfl
@[go_sem] theorem k_cc_22 : concreteT Try.prog 22 = true := by kernel_rfl
@[go_sem] theorem k_st_22 : strOfT Try.prog 22 = false := by kernel_rfl
@[go_sem] theorem k_ik_22 : intOfT Try.prog 22 = none := by kernel_rfl
@[go_sem] theorem k_by_22 : bytesOfT Try.prog 22 = 24 := by kernel_rfl
@[go_sem] theorem k_el_22 : elemOf Try.prog 22 = some 28 := by kernel_rfl
@[go_sem] theorem k_ze_22 : zeroOf Try.prog 22 = some [.slice none 0 0] := by kernel_rfl
@[go_sem] theorem k_sz_23 : szOf Try.prog 23 = some 1 := by kernel_rfl
@[go_sem] theorem k_nz_23 : nzOf Try.prog 23 = true := by kernel_rfl
@[go_sem] theorem k_ag_23 : aggOf Try.prog 23 = some false := by kernel_rfl
@[go_sem] theorem k_us_23 : (Try.prog.underlying 23).isSome = true := by kernel_rfl
@[go_sem] theorem k_cc_23 : concreteT Try.prog 23 = true := by kernel_rfl
@[go_sem] theorem k_st_23 : strOfT Try.prog 23 = false := by kernel_rfl
@[go_sem] theorem k_ik_23 : intOfT Try.prog 23 = none := by kernel_rfl
@[go_sem] theorem k_by_23 : bytesOfT Try.prog 23 = 24 := by kernel_rfl
@[go_sem] theorem k_el_23 : elemOf Try.prog 23 = some 41 := by kernel_rfl
@[go_sem] theorem k_ze_23 : zeroOf Try.prog 23 = some [.slice none 0 0] := by kernel_rfl
@[go_sem] theorem k_sz_24 : szOf Try.prog 24 = some 1 := by kernel_rfl
@[go_sem] theorem k_nz_24 : nzOf Try.prog 24 = true := by kernel_rfl
@[go_sem] theorem k_ag_24 : aggOf Try.prog 24 = some false := by kernel_rfl
@[go_sem] theorem k_us_24 : (Try.prog.underlying 24).isSome = true := by kernel_rfl
@[go_sem] theorem k_cc_24 : concreteT Try.prog 24 = true := by kernel_rfl
@[go_sem] theorem k_st_24 : strOfT Try.prog 24 = false := by kernel_rfl
@[go_sem] theorem k_ik_24 : intOfT Try.prog 24 = none := by kernel_rfl
@[go_sem] theorem k_by_24 : bytesOfT Try.prog 24 = 8 := by kernel_rfl
@[go_sem] theorem k_el_24 : elemOf Try.prog 24 = none := by kernel_rfl
@[go_sem] theorem k_ze_24 : zeroOf Try.prog 24 = some [.nilFunc] := by kernel_rfl
@[go_sem] theorem k_sz_25 : szOf Try.prog 25 = some 1 := by kernel_rfl
@[go_sem] theorem k_nz_25 : nzOf Try.prog 25 = true := by kernel_rfl
@[go_sem] theorem k_ag_25 : aggOf Try.prog 25 = some false := by kernel_rfl
@[go_sem] theorem k_us_25 : (Try.prog.underlying 25).isSome = true := by kernel_rfl
@[go_sem] theorem k_cc_25 : concreteT Try.prog 25 = true := by kernel_rfl
@[go_sem] theorem k_st_25 : strOfT Try.prog 25 = false := by kernel_rfl
@[go_sem] theorem k_ik_25 : intOfT Try.prog 25 = none := by kernel_rfl
@[go_sem] theorem k_by_25 : bytesOfT Try.prog 25 = 8 := by kernel_rfl
@[go_sem] theorem k_el_25 : elemOf Try.prog 25 = none := by kernel_rfl
@[go_sem] theorem k_ze_25 : zeroOf Try.prog 25 = some [.nilFunc] := by kernel_rfl
@[go_sem] theorem k_sz_26 : szOf Try.prog 26 = some 1 := by kernel_rfl
@[go_sem] theorem k_nz_26 : nzOf Try.prog 26 = true := by kernel_rfl
@[go_sem] theorem k_ag_26 : aggOf Try.prog 26 = some false := by kernel_rfl
@[go_sem] theorem k_us_26 : (Try.prog.underlying 26).isSome = true := by kernel_rfl
@[go_sem] theorem k_cc_26 : concreteT Try.prog 26 = true := by kernel_rfl
@[go_sem] theorem k_st_26 : strOfT Try.prog 26 = false := by kernel_rfl
@[go_sem] theorem k_ik_26 : intOfT Try.prog 26 = none := by kernel_rfl
@[go_sem] theorem k_by_26 : bytesOfT Try.prog 26 = 24 := by kernel_rfl
@[go_sem] theorem k_el_26 : elemOf Try.prog 26 = some 35 := by kernel_rfl
@[go_sem] theorem k_ze_26 : zeroOf Try.prog 26 = some [.slice none 0 0] := by kernel_rfl
@[go_sem] theorem k_sz_27 : szOf Try.prog 27 = some 2 := by kernel_rfl
@[go_sem] theorem k_nz_27 : nzOf Try.prog 27 = true := by kernel_rfl
@[go_sem] theorem k_ag_27 : aggOf Try.prog 27 = some true := by kernel_rfl
@[go_sem] theorem k_us_27 : (Try.prog.underlying 27).isSome = true := by kernel_rfl
@[go_sem] theorem k_cc_27 : concreteT Try.prog 27 = true := by kernel_rfl
@[go_sem] theorem k_st_27 : strOfT Try.prog 27 = false := by kernel_rfl
@[go_sem] theorem k_ik_27 : intOfT Try.prog 27 = none := by kernel_rfl
@[go_sem] theorem k_by_27 : bytesOfT Try.prog 27 = 32 := by kernel_rfl
@[go_sem] theorem k_el_27 : elemOf Try.prog 27 = none := by kernel_rfl
@[go_sem] theorem k_ze_27 : zeroOf Try.prog 27 = some [.int .i64 0, .slice none 0 0] := by kernel_rfl
@[go_sem] theorem k_fi_27_0 : fieldOf Try.prog 27 0 = some (0, 3) := by kernel_rfl
@[go_sem] theorem k_fi_27_1 : fieldOf Try.prog 27 1 = some (1, 26) := by kernel_rfl
@[go_sem] theorem k_pl_27 : placesOf Try.prog 27 = some [(0, 1), (1, 1)] := by kernel_rfl
@[go_sem] theorem k_sz_28 : szOf Try.prog 28 = some 2 := by kernel_rfl
@[go_sem] theorem k_nz_28 : nzOf Try.prog 28 = true := by kernel_rfl
@[go_sem] theorem k_ag_28 : aggOf Try.prog 28 = some true := by kernel_rfl
@[go_sem] theorem k_us_28 : (Try.prog.underlying 28).isSome = true := by kernel_rfl
@[go_sem] theorem k_cc_28 : concreteT Try.prog 28 = true := by kernel_rfl
@[go_sem] theorem k_st_28 : strOfT Try.prog 28 = false := by kernel_rfl
@[go_sem] theorem k_ik_28 : intOfT Try.prog 28 = none := by kernel_rfl
@[go_sem] theorem k_by_28 : bytesOfT Try.prog 28 = 32 := by kernel_rfl
@[go_sem] theorem k_el_28 : elemOf Try.prog 28 = none := by kernel_rfl
@[go_sem] theorem k_ze_28 : zeroOf Try.prog 28 = some [.int .i64 0, .slice none 0 0] := by kernel_rfl
@[go_sem] theorem k_fi_28_0 : fieldOf Try.prog 28 0 = some (0, 3) := by kernel_rfl
@[go_sem] theorem k_fi_28_1 : fieldOf Try.prog 28 1 = some (1, 26) := by kernel_rfl
@[go_sem] theorem k_pl_28 : placesOf Try.prog 28 = some [(0, 1), (1, 1)] := by kernel_rfl
@[go_sem] theorem k_sz_29 : szOf Try.prog 29 = some 1 := by kernel_rfl
@[go_sem] theorem k_nz_29 : nzOf Try.prog 29 = true := by kernel_rfl
@[go_sem] theorem k_ag_29 : aggOf Try.prog 29 = some false := by kernel_rfl
@[go_sem] theorem k_us_29 : (Try.prog.underlying 29).isSome = true := by kernel_rfl
@[go_sem] theorem k_cc_29 : concreteT Try.prog 29 = false := by kernel_rfl
@[go_sem] theorem k_st_29 : strOfT Try.prog 29 = false := by kernel_rfl
@[go_sem] theorem k_ik_29 : intOfT Try.prog 29 = none := by kernel_rfl
@[go_sem] theorem k_by_29 : bytesOfT Try.prog 29 = 16 := by kernel_rfl
@[go_sem] theorem k_el_29 : elemOf Try.prog 29 = none := by kernel_rfl
@[go_sem] theorem k_ze_29 : zeroOf Try.prog 29 = some [.nilIface] := by kernel_rfl
@[go_sem] theorem k_sz_30 : szOf Try.prog 30 = some 1 := by kernel_rfl
@[go_sem] theorem k_nz_30 : nzOf Try.prog 30 = true := by kernel_rfl
@[go_sem] theorem k_ag_30 : aggOf Try.prog 30 = some false := by kernel_rfl
@[go_sem] theorem k_us_30 : (Try.prog.underlying 30).isSome = true := by kernel_rfl
@[go_sem] theorem k_cc_30 : concreteT Try.prog 30 = false := by kernel_rfl
@[go_sem] theorem k_st_30 : strOfT Try.prog 30 = false := by kernel_rfl
@[go_sem] theorem k_ik_30 : intOfT Try.prog 30 = none := by kernel_rfl
@[go_sem] theorem k_by_30 : bytesOfT Try.prog 30 = 16 := by kernel_rfl
@[go_sem] theorem k_el_30 : elemOf Try.prog 30 = none := by kernel_rfl
@[go_sem] theorem k_ze_30 : zeroOf Try.prog 30 = some [.nilIface] := by kernel_rfl
@[go_sem] theorem k_sz_31 : szOf Try.prog 31 = some 1 := by kernel_rfl
@[go_sem] theorem k_nz_31 : nzOf Try.prog 31 = true := by kernel_rfl
@[go_sem] theorem k_ag_31 : aggOf Try.prog 31 = some false := by kernel_rfl
@[go_sem] theorem k_us_31 : (Try.prog.underlying 31).isSome = true := by kernel_rfl
@[go_sem] theorem k_cc_31 : concreteT Try.prog 31 = true := by kernel_rfl
@[go_sem] theorem k_st_31 : strOfT Try.prog 31 = false := by kernel_rfl
@[go_sem] theorem k_ik_31 : intOfT Try.prog 31 = none := by kernel_rfl
@[go_sem] theorem k_by_31 : bytesOfT Try.prog 31 = 0 := by kernel_rfl
@[go_sem] theorem k_el_31 : elemOf Try.prog 31 = none := by kernel_rfl
@[go_sem] theorem k_sz_32 : szOf Try.prog 32 = some 1 := by kernel_rfl
@[go_sem] theorem k_nz_32 : nzOf Try.prog 32 = true := by kernel_rfl
@[go_sem] theorem k_ag_32 : aggOf Try.prog 32 = some false := by kernel_rfl
@[go_sem] theorem k_us_32 : (Try.prog.underlying 32).isSome = true := by kernel_rfl
@[go_sem] theorem k_cc_32 : concreteT Try.prog 32 = true := by kernel_rfl
@[go_sem] theorem k_st_32 : strOfT Try.prog 32 = false := by kernel_rfl
@[go_sem] theorem k_ik_32 : intOfT Try.prog 32 = none := by kernel_rfl
@[go_sem] theorem k_by_32 : bytesOfT Try.prog 32 = 8 := by kernel_rfl
@[go_sem] theorem k_el_32 : elemOf Try.prog 32 = none := by kernel_rfl
@[go_sem] theorem k_ze_32 : zeroOf Try.prog 32 = some [.nilFunc] := by kernel_rfl
@[go_sem] theorem k_sz_33 : szOf Try.prog 33 = some 1 := by kernel_rfl
@[go_sem] theorem k_nz_33 : nzOf Try.prog 33 = true := by kernel_rfl
@[go_sem] theorem k_ag_33 : aggOf Try.prog 33 = some false := by kernel_rfl
@[go_sem] theorem k_us_33 : (Try.prog.underlying 33).isSome = true := by kernel_rfl
@[go_sem] theorem k_cc_33 : concreteT Try.prog 33 = true := by kernel_rfl
@[go_sem] theorem k_st_33 : strOfT Try.prog 33 = false := by kernel_rfl
@[go_sem] theorem k_ik_33 : intOfT Try.prog 33 = none := by kernel_rfl
@[go_sem] theorem k_by_33 : bytesOfT Try.prog 33 = 8 := by kernel_rfl
@[go_sem] theorem k_el_33 : elemOf Try.prog 33 = none := by kernel_rfl
@[go_sem] theorem k_ze_33 : zeroOf Try.prog 33 = some [.nilFunc] := by kernel_rfl
@[go_sem] theorem k_sz_34 : szOf Try.prog 34 = some 2 := by kernel_rfl
@[go_sem] theorem k_nz_34 : nzOf Try.prog 34 = true := by kernel_rfl
@[go_sem] theorem k_ag_34 : aggOf Try.prog 34 = some true := by kernel_rfl
@[go_sem] theorem k_us_34 : (Try.prog.underlying 34).isSome = true := by kernel_rfl
@[go_sem] theorem k_cc_34 : concreteT Try.prog 34 = true := by kernel_rfl
@[go_sem] theorem k_st_34 : strOfT Try.prog 34 = false := by kernel_rfl
@[go_sem] theorem k_ik_34 : intOfT Try.prog 34 = none := by kernel_rfl
@[go_sem] theorem k_by_34 : bytesOfT Try.prog 34 = 16 := by kernel_rfl
@[go_sem] theorem k_el_34 : elemOf Try.prog 34 = none := by kernel_rfl
@[go_sem] theorem k_ze_34 : zeroOf Try.prog 34 = some [.int .i64 0, .int .i64 0] := by kernel_rfl
@[go_sem] theorem k_fi_34_0 : fieldOf Try.prog 34 0 = some (0, 3) := by kernel_rfl
@[go_sem] theorem k_fi_34_1 : fieldOf Try.prog 34 1 = some (1, 3) := by kernel_rfl
@[go_sem] theorem k_pl_34 : placesOf Try.prog 34 = some [(0, 1), (1, 1)] := by kernel_rfl
@[go_sem] theorem k_sz_35 : szOf Try.prog 35 = some 2 := by kernel_rfl
@[go_sem] theorem k_nz_35 : nzOf Try.prog 35 = true := by kernel_rfl
@[go_sem] theorem k_ag_35 : aggOf Try.prog 35 = some true := by kernel_rfl
@[go_sem] theorem k_us_35 : (Try.prog.underlying 35).isSome = true := by kernel_rfl
@[go_sem] theorem k_cc_35 : concreteT Try.prog 35 = true := by kernel_rfl
@[go_sem] theorem k_st_35 : strOfT Try.prog 35 = false := by kernel_rfl
@[go_sem] theorem k_ik_35 : intOfT Try.prog 35 = none := by kernel_rfl
@[go_sem] theorem k_by_35 : bytesOfT Try.prog 35 = 16 := by kernel_rfl
@[go_sem] theorem k_el_35 : elemOf Try.prog 35 = none := by kernel_rfl
@[go_sem] theorem k_ze_35 : zeroOf Try.prog 35 = some [.int .i64 0, .int .i64 0] := by kernel_rfl
@[go_sem] theorem k_fi_35_0 : fieldOf Try.prog 35 0 = some (0, 3) := by kernel_rfl
@[go_sem] theorem k_fi_35_1 : fieldOf Try.prog 35 1 = some (1, 3) := by kernel_rfl
@[go_sem] theorem k_pl_35 : placesOf Try.prog 35 = some [(0, 1), (1, 1)] := by kernel_rfl
@[go_sem] theorem k_sz_36 : szOf Try.prog 36 = some 1 := by kernel_rfl
@[go_sem] theorem k_nz_36 : nzOf Try.prog 36 = true := by kernel_rfl
@[go_sem] theorem k_ag_36 : aggOf Try.prog 36 = some false := by kernel_rfl
@[go_sem] theorem k_us_36 : (Try.prog.underlying 36).isSome = true := by kernel_rfl
@[go_sem] theorem k_cc_36 : concreteT Try.prog 36 = true := by kernel_rfl
@[go_sem] theorem k_st_36 : strOfT Try.prog 36 = false := by kernel_rfl
@[go_sem] theorem k_ik_36 : intOfT Try.prog 36 = none := by kernel_rfl
@[go_sem] theorem k_by_36 : bytesOfT Try.prog 36 = 8 := by kernel_rfl
@[go_sem] theorem k_el_36 : elemOf Try.prog 36 = none := by kernel_rfl
@[go_sem] theorem k_ze_36 : zeroOf Try.prog 36 = some [.nilFunc] := by kernel_rfl
@[go_sem] theorem k_sz_37 : szOf Try.prog 37 = some 2 := by kernel_rfl
@[go_sem] theorem k_nz_37 : nzOf Try.prog 37 = true := by kernel_rfl
@[go_sem] theorem k_ag_37 : aggOf Try.prog 37 = some true := by kernel_rfl
@[go_sem] theorem k_us_37 : (Try.prog.underlying 37).isSome = true := by kernel_rfl
@[go_sem] theorem k_cc_37 : concreteT Try.prog 37 = true := by kernel_rfl
@[go_sem] theorem k_st_37 : strOfT Try.prog 37 = false := by kernel_rfl
@[go_sem] theorem k_ik_37 : intOfT Try.prog 37 = none := by kernel_rfl
@[go_sem] theorem k_by_37 : bytesOfT Try.prog 37 = 16 := by kernel_rfl
@[go_sem] theorem k_el_37 : elemOf Try.prog 37 = none := by kernel_rfl
@[go_sem] theorem k_ze_37 : zeroOf Try.prog 37 = some [.int .i64 0, .int .i64 0] := by kernel_rfl
@[go_sem] theorem k_fi_37_0 : fieldOf Try.prog 37 0 = some (0, 3) := by kernel_rfl
@[go_sem] theorem k_fi_37_1 : fieldOf Try.prog 37 1 = some (1, 3) := by kernel_rfl
@[go_sem] theorem k_pl_37 : placesOf Try.prog 37 = some [(0, 1), (1, 1)] := by kernel_rfl
@[go_sem] theorem k_sz_38 : szOf Try.prog 38 = some 2 := by kernel_rfl
@[go_sem] theorem k_nz_38 : nzOf Try.prog 38 = true := by kernel_rfl
@[go_sem] theorem k_ag_38 : aggOf Try.prog 38 = some true := by kernel_rfl
@[go_sem] theorem k_us_38 : (Try.prog.underlying 38).isSome = true := by kernel_rfl
@[go_sem] theorem k_cc_38 : concreteT Try.prog 38 = true := by kernel_rfl
@[go_sem] theorem k_st_38 : strOfT Try.prog 38 = false := by kernel_rfl
@[go_sem] theorem k_ik_38 : intOfT Try.prog 38 = none := by kernel_rfl
@[go_sem] theorem k_by_38 : bytesOfT Try.prog 38 = 16 := by kernel_rfl
@[go_sem] theorem k_el_38 : elemOf Try.prog 38 = none := by kernel_rfl
@[go_sem] theorem k_ze_38 : zeroOf Try.prog 38 = some [.int .i64 0, .int .i64 0] := by kernel_rfl
@[go_sem] theorem k_fi_38_0 : fieldOf Try.prog 38 0 = some (0, 3) := by kernel_rfl
@[go_sem] theorem k_fi_38_1 : fieldOf Try.prog 38 1 = some (1, 3) := by kernel_rfl
@[go_sem] theorem k_pl_38 : placesOf Try.prog 38 = some [(0, 1), (1, 1)] := by kernel_rfl
@[go_sem] theorem k_sz_39 : szOf Try.prog 39 = some 1 := by kernel_rfl
@[go_sem] theorem k_nz_39 : nzOf Try.prog 39 = true := by kernel_rfl
@[go_sem] theorem k_ag_39 : aggOf Try.prog 39 = some false := by kernel_rfl
@[go_sem] theorem k_us_39 : (Try.prog.underlying 39).isSome = true := by kernel_rfl
@[go_sem] theorem k_cc_39 : concreteT Try.prog 39 = true := by kernel_rfl
@[go_sem] theorem k_st_39 : strOfT Try.prog 39 = false := by kernel_rfl
@[go_sem] theorem k_ik_39 : intOfT Try.prog 39 = none := by kernel_rfl
@[go_sem] theorem k_by_39 : bytesOfT Try.prog 39 = 24 := by kernel_rfl
@[go_sem] theorem k_el_39 : elemOf Try.prog 39 = some 38 := by kernel_rfl
@[go_sem] theorem k_ze_39 : zeroOf Try.prog 39 = some [.slice none 0 0] := by kernel_rfl
@[go_sem] theorem k_sz_40 : szOf Try.prog 40 = some 2 := by kernel_rfl
@[go_sem] theorem k_nz_40 : nzOf Try.prog 40 = true := by kernel_rfl
@[go_sem] theorem k_ag_40 : aggOf Try.prog 40 = some true := by kernel_rfl
@[go_sem] theorem k_us_40 : (Try.prog.underlying 40).isSome = true := by kernel_rfl
@[go_sem] theorem k_cc_40 : concreteT Try.prog 40 = true := by kernel_rfl
@[go_sem] theorem k_st_40 : strOfT Try.prog 40 = false := by kernel_rfl
@[go_sem] theorem k_ik_40 : intOfT Try.prog 40 = none := by kernel_rfl
@[go_sem] theorem k_by_40 : bytesOfT Try.prog 40 = 32 := by kernel_rfl
@[go_sem] theorem k_el_40 : elemOf Try.prog 40 = none := by kernel_rfl
@[go_sem] theorem k_ze_40 : zeroOf Try.prog 40 = some [.slice none 0 0, .int .i64 0] := by kernel_rfl
@[go_sem] theorem k_fi_40_0 : fieldOf Try.prog 40 0 = some (0, 39) := by kernel_rfl
@[go_sem] theorem k_fi_40_1 : fieldOf Try.prog 40 1 = some (1, 3) := by kernel_rfl
@[go_sem] theorem k_pl_40 : placesOf Try.prog 40 = some [(0, 1), (1, 1)] := by kernel_rfl
@[go_sem] theorem k_sz_41 : szOf Try.prog 41 = some 2 := by kernel_rfl
@[go_sem] theorem k_nz_41 : nzOf Try.prog 41 = true := by kernel_rfl
@[go_sem] theorem k_ag_41 : aggOf Try.prog 41 = some true := by kernel_rfl
@[go_sem] theorem k_us_41 : (Try.prog.underlying 41).isSome = true := by kernel_rfl
@[go_sem] theorem k_cc_41 : concreteT Try.prog 41 = true := by kernel_rfl
@[go_sem] theorem k_st_41 : strOfT Try.prog 41 = false := by kernel_rfl
@[go_sem] theorem k_ik_41 : intOfT Try.prog 41 = none := by kernel_rfl
@[go_sem] theorem k_by_41 : bytesOfT Try.prog 41 = 32 := by kernel_rfl
@[go_sem] theorem k_el_41 : elemOf Try.prog 41 = none := by kernel_rfl
@[go_sem] theorem k_ze_41 : zeroOf Try.prog 41 = some [.slice none 0 0, .int .i64 0] := by kernel_rfl
@[go_sem] theorem k_fi_41_0 : fieldOf Try.prog 41 0 = some (0, 39) := by kernel_rfl
@[go_sem] theorem k_fi_41_1 : fieldOf Try.prog 41 1 = some (1, 3) := by kernel_rfl
@[go_sem] theorem k_pl_41 : placesOf Try.prog 41 = some [(0, 1), (1, 1)] := by kernel_rfl
@[go_sem] theorem k_sz_42 : szOf Try.prog 42 = some 1 := by kernel_rfl
@[go_sem] theorem k_nz_42 : nzOf Try.prog 42 = true := by kernel_rfl
@[go_sem] theorem k_ag_42 : aggOf Try.prog 42 = some false := by kernel_rfl
@[go_sem] theorem k_us_42 : (Try.prog.underlying 42).isSome = true := by kernel_rfl
@[go_sem] theorem k_cc_42 : concreteT Try.prog 42 = true := by kernel_rfl
@[go_sem] theorem k_st_42 : strOfT Try.prog 42 = false := by kernel_rfl
@[go_sem] theorem k_ik_42 : intOfT Try.prog 42 = some .i64 := by kernel_rfl
@[go_sem] theorem k_by_42 : bytesOfT Try.prog 42 = 8 := by kernel_rfl
@[go_sem] theorem k_el_42 : elemOf Try.prog 42 = none := by kernel_rfl
@[go_sem] theorem k_ze_42 : zeroOf Try.prog 42 = some [.int .i64 0] := by kernel_rfl
@[go_sem] theorem k_sz_43 : szOf Try.prog 43 = some 1 := by kernel_rfl
@[go_sem] theorem k_nz_43 : nzOf Try.prog 43 = true := by kernel_rfl
@[go_sem] theorem k_ag_43 : aggOf Try.prog 43 = some false := by kernel_rfl
@[go_sem] theorem k_us_43 : (Try.prog.underlying 43).isSome = true := by kernel_rfl
@[go_sem] theorem k_cc_43 : concreteT Try.prog 43 = true := by kernel_rfl
@[go_sem] theorem k_st_43 : strOfT Try.prog 43 = false := by kernel_rfl
@[go_sem] theorem k_ik_43 : intOfT Try.prog 43 = none := by kernel_rfl
@[go_sem] theorem k_by_43 : bytesOfT Try.prog 43 = 8 := by kernel_rfl
@[go_sem] theorem k_el_43 : elemOf Try.prog 43 = none := by kernel_rfl
@[go_sem] theorem k_ze_43 : zeroOf Try.prog 43 = some [.nilFunc] := by kernel_rfl
@[go_sem] theorem k_sz_44 : szOf Try.prog 44 = some 1 := by kernel_rfl
@[go_sem] theorem k_nz_44 : nzOf Try.prog 44 = true := by kernel_rfl
@[go_sem] theorem k_ag_44 : aggOf Try.prog 44 = some false := by kernel_rfl
@[go_sem] theorem k_us_44 : (Try.prog.underlying 44).isSome = true := by kernel_rfl
@[go_sem] theorem k_cc_44 : concreteT Try.prog 44 = true := by kernel_rfl
@[go_sem] theorem k_st_44 : strOfT Try.prog 44 = false := by kernel_rfl
@[go_sem] theorem k_ik_44 : intOfT Try.prog 44 = none := by kernel_rfl
@[go_sem] theorem k_by_44 : bytesOfT Try.prog 44 = 8 := by kernel_rfl
@[go_sem] theorem k_el_44 : elemOf Try.prog 44 = none := by kernel_rfl
@[go_sem] theorem k_ze_44 : zeroOf Try.prog 44 = some [.pointer none] := by kernel_rfl
@[go_sem] theorem k_sz_45 : szOf Try.prog 45 = some 2 := by kernel_rfl
@[go_sem] theorem k_nz_45 : nzOf Try.prog 45 = true := by kernel_rfl
@[go_sem] theorem k_ag_45 : aggOf Try.prog 45 = some true := by kernel_rfl
@[go_sem] theorem k_us_45 : (Try.prog.underlying 45).isSome = true := by kernel_rfl
@[go_sem] theorem k_cc_45 : concreteT Try.prog 45 = true := by kernel_rfl
@[go_sem] theorem k_st_45 : strOfT Try.prog 45 = false := by kernel_rfl
@[go_sem] theorem k_ik_45 : intOfT Try.prog 45 = none := by kernel_rfl
@[go_sem] theorem k_by_45 : bytesOfT Try.prog 45 = 24 := by kernel_rfl
@[go_sem] theorem k_el_45 : elemOf Try.prog 45 = none := by kernel_rfl
@[go_sem] theorem k_ze_45 : zeroOf Try.prog 45 = some [.int .i64 0, .nilIface] := by kernel_rfl
@[go_sem] theorem k_fi_45_0 : fieldOf Try.prog 45 0 = some (0, 3) := by kernel_rfl
@[go_sem] theorem k_fi_45_1 : fieldOf Try.prog 45 1 = some (1, 30) := by kernel_rfl
@[go_sem] theorem k_pl_45 : placesOf Try.prog 45 = some [(0, 1), (1, 1)] := by kernel_rfl
@[go_sem] theorem k_sz_46 : szOf Try.prog 46 = some 2 := by kernel_rfl
@[go_sem] theorem k_nz_46 : nzOf Try.prog 46 = true := by kernel_rfl
@[go_sem] theorem k_ag_46 : aggOf Try.prog 46 = some true := by kernel_rfl
@[go_sem] theorem k_us_46 : (Try.prog.underlying 46).isSome = true := by kernel_rfl
@[go_sem] theorem k_cc_46 : concreteT Try.prog 46 = true := by kernel_rfl
@[go_sem] theorem k_st_46 : strOfT Try.prog 46 = false := by kernel_rfl
@[go_sem] theorem k_ik_46 : intOfT Try.prog 46 = none := by kernel_rfl
@[go_sem] theorem k_by_46 : bytesOfT Try.prog 46 = 24 := by kernel_rfl
@[go_sem] theorem k_el_46 : elemOf Try.prog 46 = none := by kernel_rfl
@[go_sem] theorem k_ze_46 : zeroOf Try.prog 46 = some [.int .i64 0, .nilIface] := by kernel_rfl
@[go_sem] theorem k_fi_46_0 : fieldOf Try.prog 46 0 = some (0, 3) := by kernel_rfl
@[go_sem] theorem k_fi_46_1 : fieldOf Try.prog 46 1 = some (1, 30) := by kernel_rfl
@[go_sem] theorem k_pl_46 : placesOf Try.prog 46 = some [(0, 1), (1, 1)] := by kernel_rfl
@[go_sem] theorem k_sz_47 : szOf Try.prog 47 = some 1 := by kernel_rfl
@[go_sem] theorem k_nz_47 : nzOf Try.prog 47 = true := by kernel_rfl
@[go_sem] theorem k_ag_47 : aggOf Try.prog 47 = some false := by kernel_rfl
@[go_sem] theorem k_us_47 : (Try.prog.underlying 47).isSome = true := by kernel_rfl
@[go_sem] theorem k_cc_47 : concreteT Try.prog 47 = true := by kernel_rfl
@[go_sem] theorem k_st_47 : strOfT Try.prog 47 = false := by kernel_rfl
@[go_sem] theorem k_ik_47 : intOfT Try.prog 47 = none := by kernel_rfl
@[go_sem] theorem k_by_47 : bytesOfT Try.prog 47 = 8 := by kernel_rfl
@[go_sem] theorem k_el_47 : elemOf Try.prog 47 = none := by kernel_rfl
@[go_sem] theorem k_ze_47 : zeroOf Try.prog 47 = some [.nilFunc] := by kernel_rfl
@[go_sem] theorem k_sz_48 : szOf Try.prog 48 = some 1 := by kernel_rfl
@[go_sem] theorem k_nz_48 : nzOf Try.prog 48 = true := by kernel_rfl
@[go_sem] theorem k_ag_48 : aggOf Try.prog 48 = some false := by kernel_rfl
@[go_sem] theorem k_us_48 : (Try.prog.underlying 48).isSome = true := by kernel_rfl
@[go_sem] theorem k_cc_48 : concreteT Try.prog 48 = true := by kernel_rfl
@[go_sem] theorem k_st_48 : strOfT Try.prog 48 = false := by kernel_rfl
@[go_sem] theorem k_ik_48 : intOfT Try.prog 48 = none := by kernel_rfl
@[go_sem] theorem k_by_48 : bytesOfT Try.prog 48 = 0 := by kernel_rfl
@[go_sem] theorem k_el_48 : elemOf Try.prog 48 = none := by kernel_rfl
@[go_sem] theorem k_sz_49 : szOf Try.prog 49 = some 1 := by kernel_rfl
@[go_sem] theorem k_nz_49 : nzOf Try.prog 49 = true := by kernel_rfl
@[go_sem] theorem k_ag_49 : aggOf Try.prog 49 = some false := by kernel_rfl
@[go_sem] theorem k_us_49 : (Try.prog.underlying 49).isSome = true := by kernel_rfl
@[go_sem] theorem k_cc_49 : concreteT Try.prog 49 = true := by kernel_rfl
@[go_sem] theorem k_st_49 : strOfT Try.prog 49 = false := by kernel_rfl
@[go_sem] theorem k_ik_49 : intOfT Try.prog 49 = none := by kernel_rfl
@[go_sem] theorem k_by_49 : bytesOfT Try.prog 49 = 8 := by kernel_rfl
@[go_sem] theorem k_el_49 : elemOf Try.prog 49 = none := by kernel_rfl
@[go_sem] theorem k_ze_49 : zeroOf Try.prog 49 = some [.nilFunc] := by kernel_rfl
@[go_sem] theorem k_sz_50 : szOf Try.prog 50 = some 1 := by kernel_rfl
@[go_sem] theorem k_nz_50 : nzOf Try.prog 50 = true := by kernel_rfl
@[go_sem] theorem k_ag_50 : aggOf Try.prog 50 = some false := by kernel_rfl
@[go_sem] theorem k_us_50 : (Try.prog.underlying 50).isSome = true := by kernel_rfl
@[go_sem] theorem k_cc_50 : concreteT Try.prog 50 = true := by kernel_rfl
@[go_sem] theorem k_st_50 : strOfT Try.prog 50 = false := by kernel_rfl
@[go_sem] theorem k_ik_50 : intOfT Try.prog 50 = none := by kernel_rfl
@[go_sem] theorem k_by_50 : bytesOfT Try.prog 50 = 8 := by kernel_rfl
@[go_sem] theorem k_el_50 : elemOf Try.prog 50 = none := by kernel_rfl
@[go_sem] theorem k_ze_50 : zeroOf Try.prog 50 = some [.nilFunc] := by kernel_rfl
@[go_sem] theorem k_sz_51 : szOf Try.prog 51 = some 1 := by kernel_rfl
@[go_sem] theorem k_nz_51 : nzOf Try.prog 51 = true := by kernel_rfl
@[go_sem] theorem k_ag_51 : aggOf Try.prog 51 = some false := by kernel_rfl
@[go_sem] theorem k_us_51 : (Try.prog.underlying 51).isSome = true := by kernel_rfl
@[go_sem] theorem k_cc_51 : concreteT Try.prog 51 = true := by kernel_rfl
@[go_sem] theorem k_st_51 : strOfT Try.prog 51 = false := by kernel_rfl
@[go_sem] theorem k_ik_51 : intOfT Try.prog 51 = none := by kernel_rfl
@[go_sem] theorem k_by_51 : bytesOfT Try.prog 51 = 8 := by kernel_rfl
@[go_sem] theorem k_el_51 : elemOf Try.prog 51 = none := by kernel_rfl
@[go_sem] theorem k_ze_51 : zeroOf Try.prog 51 = some [.nilFunc] := by kernel_rfl
@[go_sem] theorem k_sz_52 : szOf Try.prog 52 = some 1 := by kernel_rfl
@[go_sem] theorem k_nz_52 : nzOf Try.prog 52 = true := by kernel_rfl
@[go_sem] theorem k_ag_52 : aggOf Try.prog 52 = some false := by kernel_rfl
@[go_sem] theorem k_us_52 : (Try.prog.underlying 52).isSome = true := by kernel_rfl
@[go_sem] theorem k_cc_52 : concreteT Try.prog 52 = true := by kernel_rfl
@[go_sem] theorem k_st_52 : strOfT Try.prog 52 = false := by kernel_rfl
@[go_sem] theorem k_ik_52 : intOfT Try.prog 52 = none := by kernel_rfl
@[go_sem] theorem k_by_52 : bytesOfT Try.prog 52 = 8 := by kernel_rfl
@[go_sem] theorem k_el_52 : elemOf Try.prog 52 = none := by kernel_rfl
@[go_sem] theorem k_ze_52 : zeroOf Try.prog 52 = some [.nilFunc] := by kernel_rfl
@[go_sem] theorem k_sz_53 : szOf Try.prog 53 = some 1 := by kernel_rfl
@[go_sem] theorem k_nz_53 : nzOf Try.prog 53 = true := by kernel_rfl
@[go_sem] theorem k_ag_53 : aggOf Try.prog 53 = some false := by kernel_rfl
@[go_sem] theorem k_us_53 : (Try.prog.underlying 53).isSome = true := by kernel_rfl
@[go_sem] theorem k_cc_53 : concreteT Try.prog 53 = true := by kernel_rfl
@[go_sem] theorem k_st_53 : strOfT Try.prog 53 = false := by kernel_rfl
@[go_sem] theorem k_ik_53 : intOfT Try.prog 53 = none := by kernel_rfl
@[go_sem] theorem k_by_53 : bytesOfT Try.prog 53 = 8 := by kernel_rfl
@[go_sem] theorem k_el_53 : elemOf Try.prog 53 = none := by kernel_rfl
@[go_sem] theorem k_ze_53 : zeroOf Try.prog 53 = some [.nilFunc] := by kernel_rfl
@[go_sem] theorem k_sz_54 : szOf Try.prog 54 = some 1 := by kernel_rfl
@[go_sem] theorem k_nz_54 : nzOf Try.prog 54 = true := by kernel_rfl
@[go_sem] theorem k_ag_54 : aggOf Try.prog 54 = some false := by kernel_rfl
@[go_sem] theorem k_us_54 : (Try.prog.underlying 54).isSome = true := by kernel_rfl
@[go_sem] theorem k_cc_54 : concreteT Try.prog 54 = true := by kernel_rfl
@[go_sem] theorem k_st_54 : strOfT Try.prog 54 = false := by kernel_rfl
@[go_sem] theorem k_ik_54 : intOfT Try.prog 54 = none := by kernel_rfl
@[go_sem] theorem k_by_54 : bytesOfT Try.prog 54 = 8 := by kernel_rfl
@[go_sem] theorem k_el_54 : elemOf Try.prog 54 = none := by kernel_rfl
@[go_sem] theorem k_ze_54 : zeroOf Try.prog 54 = some [.map none] := by kernel_rfl
@[go_sem] theorem k_sz_55 : szOf Try.prog 55 = some 1 := by kernel_rfl
@[go_sem] theorem k_nz_55 : nzOf Try.prog 55 = true := by kernel_rfl
@[go_sem] theorem k_ag_55 : aggOf Try.prog 55 = some false := by kernel_rfl
@[go_sem] theorem k_us_55 : (Try.prog.underlying 55).isSome = true := by kernel_rfl
@[go_sem] theorem k_cc_55 : concreteT Try.prog 55 = true := by kernel_rfl
@[go_sem] theorem k_st_55 : strOfT Try.prog 55 = false := by kernel_rfl
@[go_sem] theorem k_ik_55 : intOfT Try.prog 55 = none := by kernel_rfl
@[go_sem] theorem k_by_55 : bytesOfT Try.prog 55 = 8 := by kernel_rfl
@[go_sem] theorem k_el_55 : elemOf Try.prog 55 = none := by kernel_rfl
@[go_sem] theorem k_ze_55 : zeroOf Try.prog 55 = some [.nilFunc] := by kernel_rfl
@[go_sem] theorem k_sz_56 : szOf Try.prog 56 = some 1 := by kernel_rfl
@[go_sem] theorem k_nz_56 : nzOf Try.prog 56 = true := by kernel_rfl
@[go_sem] theorem k_ag_56 : aggOf Try.prog 56 = some false := by kernel_rfl
@[go_sem] theorem k_us_56 : (Try.prog.underlying 56).isSome = true := by kernel_rfl
@[go_sem] theorem k_cc_56 : concreteT Try.prog 56 = true := by kernel_rfl
@[go_sem] theorem k_st_56 : strOfT Try.prog 56 = false := by kernel_rfl
@[go_sem] theorem k_ik_56 : intOfT Try.prog 56 = none := by kernel_rfl
@[go_sem] theorem k_by_56 : bytesOfT Try.prog 56 = 8 := by kernel_rfl
@[go_sem] theorem k_el_56 : elemOf Try.prog 56 = none := by kernel_rfl
@[go_sem] theorem k_ze_56 : zeroOf Try.prog 56 = some [.nilFunc] := by kernel_rfl
@[go_sem] theorem k_sz_57 : szOf Try.prog 57 = some 1 := by kernel_rfl
@[go_sem] theorem k_nz_57 : nzOf Try.prog 57 = true := by kernel_rfl
@[go_sem] theorem k_ag_57 : aggOf Try.prog 57 = some false := by kernel_rfl
@[go_sem] theorem k_us_57 : (Try.prog.underlying 57).isSome = true := by kernel_rfl
@[go_sem] theorem k_cc_57 : concreteT Try.prog 57 = true := by kernel_rfl
@[go_sem] theorem k_st_57 : strOfT Try.prog 57 = false := by kernel_rfl
@[go_sem] theorem k_ik_57 : intOfT Try.prog 57 = none := by kernel_rfl
@[go_sem] theorem k_by_57 : bytesOfT Try.prog 57 = 8 := by kernel_rfl
@[go_sem] theorem k_el_57 : elemOf Try.prog 57 = none := by kernel_rfl
@[go_sem] theorem k_ze_57 : zeroOf Try.prog 57 = some [.nilFunc] := by kernel_rfl
@[go_sem] theorem k_sz_58 : szOf Try.prog 58 = some 1 := by kernel_rfl
@[go_sem] theorem k_nz_58 : nzOf Try.prog 58 = true := by kernel_rfl
@[go_sem] theorem k_ag_58 : aggOf Try.prog 58 = some false := by kernel_rfl
@[go_sem] theorem k_us_58 : (Try.prog.underlying 58).isSome = true := by kernel_rfl
@[go_sem] theorem k_cc_58 : concreteT Try.prog 58 = true := by kernel_rfl
@[go_sem] theorem k_st_58 : strOfT Try.prog 58 = false := by kernel_rfl
@[go_sem] theorem k_ik_58 : intOfT Try.prog 58 = none := by kernel_rfl
@[go_sem] theorem k_by_58 : bytesOfT Try.prog 58 = 24 := by kernel_rfl
@[go_sem] theorem k_el_58 : elemOf Try.prog 58 = some 3 := by kernel_rfl
@[go_sem] theorem k_ze_58 : zeroOf Try.prog 58 = some [.slice none 0 0] := by kernel_rfl
@[go_sem] theorem k_sz_59 : szOf Try.prog 59 = some 1 := by kernel_rfl
@[go_sem] theorem k_nz_59 : nzOf Try.prog 59 = true := by kernel_rfl
@[go_sem] theorem k_ag_59 : aggOf Try.prog 59 = some false := by kernel_rfl
@[go_sem] theorem k_us_59 : (Try.prog.underlying 59).isSome = true := by kernel_rfl
@[go_sem] theorem k_cc_59 : concreteT Try.prog 59 = true := by kernel_rfl
@[go_sem] theorem k_st_59 : strOfT Try.prog 59 = false := by kernel_rfl
@[go_sem] theorem k_ik_59 : intOfT Try.prog 59 = none := by kernel_rfl
@[go_sem] theorem k_by_59 : bytesOfT Try.prog 59 = 8 := by kernel_rfl
@[go_sem] theorem k_el_59 : elemOf Try.prog 59 = none := by kernel_rfl
@[go_sem] theorem k_ze_59 : zeroOf Try.prog 59 = some [.nilFunc] := by kernel_rfl
@[go_sem] theorem k_sz_60 : szOf Try.prog 60 = some 1 := by kernel_rfl
@[go_sem] theorem k_nz_60 : nzOf Try.prog 60 = true := by kernel_rfl
@[go_sem] theorem k_ag_60 : aggOf Try.prog 60 = some false := by kernel_rfl
@[go_sem] theorem k_us_60 : (Try.prog.underlying 60).isSome = true := by kernel_rfl
@[go_sem] theorem k_cc_60 : concreteT Try.prog 60 = true := by kernel_rfl
@[go_sem] theorem k_st_60 : strOfT Try.prog 60 = false := by kernel_rfl
@[go_sem] theorem k_ik_60 : intOfT Try.prog 60 = none := by kernel_rfl
@[go_sem] theorem k_by_60 : bytesOfT Try.prog 60 = 8 := by kernel_rfl
@[go_sem] theorem k_el_60 : elemOf Try.prog 60 = none := by kernel_rfl
@[go_sem] theorem k_ze_60 : zeroOf Try.prog 60 = some [.nilFunc] := by kernel_rfl
@[go_sem] theorem k_sz_61 : szOf Try.prog 61 = some 1 := by kernel_rfl
@[go_sem] theorem k_nz_61 : nzOf Try.prog 61 = true := by kernel_rfl
@[go_sem] theorem k_ag_61 : aggOf Try.prog 61 = some false := by kernel_rfl
@[go_sem] theorem k_us_61 : (Try.prog.underlying 61).isSome = true := by kernel_rfl
@[go_sem] theorem k_cc_61 : concreteT Try.prog 61 = true := by kernel_rfl
@[go_sem] theorem k_st_61 : strOfT Try.prog 61 = false := by kernel_rfl
@[go_sem] theorem k_ik_61 : intOfT Try.prog 61 = none := by kernel_rfl
@[go_sem] theorem k_by_61 : bytesOfT Try.prog 61 = 8 := by kernel_rfl
@[go_sem] theorem k_el_61 : elemOf Try.prog 61 = none := by kernel_rfl
@[go_sem] theorem k_ze_61 : zeroOf Try.prog 61 = some [.nilFunc] := by kernel_rfl
@[go_sem] theorem k_sz_62 : szOf Try.prog 62 = some 1 := by kernel_rfl
@[go_sem] theorem k_nz_62 : nzOf Try.prog 62 = true := by kernel_rfl
@[go_sem] theorem k_ag_62 : aggOf Try.prog 62 = some false := by kernel_rfl
@[go_sem] theorem k_us_62 : (Try.prog.underlying 62).isSome = true := by kernel_rfl
@[go_sem] theorem k_cc_62 : concreteT Try.prog 62 = true := by kernel_rfl
@[go_sem] theorem k_st_62 : strOfT Try.prog 62 = false := by kernel_rfl
@[go_sem] theorem k_ik_62 : intOfT Try.prog 62 = none := by kernel_rfl
@[go_sem] theorem k_by_62 : bytesOfT Try.prog 62 = 8 := by kernel_rfl
@[go_sem] theorem k_el_62 : elemOf Try.prog 62 = none := by kernel_rfl
@[go_sem] theorem k_ze_62 : zeroOf Try.prog 62 = some [.nilFunc] := by kernel_rfl
@[go_sem] theorem k_sz_63 : szOf Try.prog 63 = some 1 := by kernel_rfl
@[go_sem] theorem k_nz_63 : nzOf Try.prog 63 = true := by kernel_rfl
@[go_sem] theorem k_ag_63 : aggOf Try.prog 63 = some false := by kernel_rfl
@[go_sem] theorem k_us_63 : (Try.prog.underlying 63).isSome = true := by kernel_rfl
@[go_sem] theorem k_cc_63 : concreteT Try.prog 63 = true := by kernel_rfl
@[go_sem] theorem k_st_63 : strOfT Try.prog 63 = false := by kernel_rfl
@[go_sem] theorem k_ik_63 : intOfT Try.prog 63 = none := by kernel_rfl
@[go_sem] theorem k_by_63 : bytesOfT Try.prog 63 = 8 := by kernel_rfl
@[go_sem] theorem k_el_63 : elemOf Try.prog 63 = none := by kernel_rfl
@[go_sem] theorem k_ze_63 : zeroOf Try.prog 63 = some [.nilFunc] := by kernel_rfl
@[go_sem] theorem k_sz_64 : szOf Try.prog 64 = some 1 := by kernel_rfl
@[go_sem] theorem k_nz_64 : nzOf Try.prog 64 = true := by kernel_rfl
@[go_sem] theorem k_ag_64 : aggOf Try.prog 64 = some false := by kernel_rfl
@[go_sem] theorem k_us_64 : (Try.prog.underlying 64).isSome = true := by kernel_rfl
@[go_sem] theorem k_cc_64 : concreteT Try.prog 64 = true := by kernel_rfl
@[go_sem] theorem k_st_64 : strOfT Try.prog 64 = false := by kernel_rfl
@[go_sem] theorem k_ik_64 : intOfT Try.prog 64 = none := by kernel_rfl
@[go_sem] theorem k_by_64 : bytesOfT Try.prog 64 = 8 := by kernel_rfl
@[go_sem] theorem k_el_64 : elemOf Try.prog 64 = none := by kernel_rfl
@[go_sem] theorem k_ze_64 : zeroOf Try.prog 64 = some [.nilFunc] := by kernel_rfl
@[go_sem] theorem k_sz_65 : szOf Try.prog 65 = some 1 := by kernel_rfl
@[go_sem] theorem k_nz_65 : nzOf Try.prog 65 = true := by kernel_rfl
@[go_sem] theorem k_ag_65 : aggOf Try.prog 65 = some false := by kernel_rfl
@[go_sem] theorem k_us_65 : (Try.prog.underlying 65).isSome = true := by kernel_rfl
@[go_sem] theorem k_cc_65 : concreteT Try.prog 65 = true := by kernel_rfl
@[go_sem] theorem k_st_65 : strOfT Try.prog 65 = false := by kernel_rfl
@[go_sem] theorem k_ik_65 : intOfT Try.prog 65 = none := by kernel_rfl
@[go_sem] theorem k_by_65 : bytesOfT Try.prog 65 = 8 := by kernel_rfl
@[go_sem] theorem k_el_65 : elemOf Try.prog 65 = none := by kernel_rfl
@[go_sem] theorem k_ze_65 : zeroOf Try.prog 65 = some [.nilFunc] := by kernel_rfl
@[go_sem] theorem k_sz_66 : szOf Try.prog 66 = some 1 := by kernel_rfl
@[go_sem] theorem k_nz_66 : nzOf Try.prog 66 = true := by kernel_rfl
@[go_sem] theorem k_ag_66 : aggOf Try.prog 66 = some false := by kernel_rfl
@[go_sem] theorem k_us_66 : (Try.prog.underlying 66).isSome = true := by kernel_rfl
@[go_sem] theorem k_cc_66 : concreteT Try.prog 66 = true := by kernel_rfl
@[go_sem] theorem k_st_66 : strOfT Try.prog 66 = false := by kernel_rfl
@[go_sem] theorem k_ik_66 : intOfT Try.prog 66 = none := by kernel_rfl
@[go_sem] theorem k_by_66 : bytesOfT Try.prog 66 = 8 := by kernel_rfl
@[go_sem] theorem k_el_66 : elemOf Try.prog 66 = none := by kernel_rfl
@[go_sem] theorem k_ze_66 : zeroOf Try.prog 66 = some [.nilFunc] := by kernel_rfl
@[go_sem] theorem k_sz_67 : szOf Try.prog 67 = some 1 := by kernel_rfl
@[go_sem] theorem k_nz_67 : nzOf Try.prog 67 = true := by kernel_rfl
@[go_sem] theorem k_ag_67 : aggOf Try.prog 67 = some false := by kernel_rfl
@[go_sem] theorem k_us_67 : (Try.prog.underlying 67).isSome = true := by kernel_rfl
@[go_sem] theorem k_cc_67 : concreteT Try.prog 67 = true := by kernel_rfl
@[go_sem] theorem k_st_67 : strOfT Try.prog 67 = false := by kernel_rfl
@[go_sem] theorem k_ik_67 : intOfT Try.prog 67 = none := by kernel_rfl
@[go_sem] theorem k_by_67 : bytesOfT Try.prog 67 = 8 := by kernel_rfl
@[go_sem] theorem k_el_67 : elemOf Try.prog 67 = none := by kernel_rfl
@[go_sem] theorem k_ze_67 : zeroOf Try.prog 67 = some [.nilFunc] := by kernel_rfl
@[go_sem] theorem k_sz_68 : szOf Try.prog 68 = some 1 := by kernel_rfl
@[go_sem] theorem k_nz_68 : nzOf Try.prog 68 = true := by kernel_rfl
@[go_sem] theorem k_ag_68 : aggOf Try.prog 68 = some false := by kernel_rfl
@[go_sem] theorem k_us_68 : (Try.prog.underlying 68).isSome = true := by kernel_rfl
@[go_sem] theorem k_cc_68 : concreteT Try.prog 68 = true := by kernel_rfl
@[go_sem] theorem k_st_68 : strOfT Try.prog 68 = false := by kernel_rfl
@[go_sem] theorem k_ik_68 : intOfT Try.prog 68 = some .u64 := by kernel_rfl
@[go_sem] theorem k_by_68 : bytesOfT Try.prog 68 = 8 := by kernel_rfl
@[go_sem] theorem k_el_68 : elemOf Try.prog 68 = none := by kernel_rfl
@[go_sem] theorem k_ze_68 : zeroOf Try.prog 68 = some [.int .u64 0] := by kernel_rfl
@[go_sem] theorem k_sz_69 : szOf Try.prog 69 = some 1 := by kernel_rfl
@[go_sem] theorem k_nz_69 : nzOf Try.prog 69 = true := by kernel_rfl
@[go_sem] theorem k_ag_69 : aggOf Try.prog 69 = some false := by kernel_rfl
@[go_sem] theorem k_us_69 : (Try.prog.underlying 69).isSome = true := by kernel_rfl
@[go_sem] theorem k_cc_69 : concreteT Try.prog 69 = true := by kernel_rfl
@[go_sem] theorem k_st_69 : strOfT Try.prog 69 = false := by kernel_rfl
@[go_sem] theorem k_ik_69 : intOfT Try.prog 69 = none := by kernel_rfl
@[go_sem] theorem k_by_69 : bytesOfT Try.prog 69 = 8 := by kernel_rfl
@[go_sem] theorem k_el_69 : elemOf Try.prog 69 = none := by kernel_rfl
@[go_sem] theorem k_ze_69 : zeroOf Try.prog 69 = some [.nilFunc] := by kernel_rfl
@[go_sem] theorem k_sz_70 : szOf Try.prog 70 = some 1 := by kernel_rfl
@[go_sem] theorem k_nz_70 : nzOf Try.prog 70 = true := by kernel_rfl
@[go_sem] theorem k_ag_70 : aggOf Try.prog 70 = some false := by kernel_rfl
@[go_sem] theorem k_us_70 : (Try.prog.underlying 70).isSome = true := by kernel_rfl
@[go_sem] theorem k_cc_70 : concreteT Try.prog 70 = true := by kernel_rfl
@[go_sem] theorem k_st_70 : strOfT Try.prog 70 = false := by kernel_rfl
@[go_sem] theorem k_ik_70 : intOfT Try.prog 70 = some .i64 := by kernel_rfl
@[go_sem] theorem k_by_70 : bytesOfT Try.prog 70 = 8 := by kernel_rfl
@[go_sem] theorem k_el_70 : elemOf Try.prog 70 = none := by kernel_rfl
@[go_sem] theorem k_ze_70 : zeroOf Try.prog 70 = some [.int .i64 0] := by kernel_rfl
@[go_sem] theorem k_sz_71 : szOf Try.prog 71 = some 1 := by kernel_rfl
@[go_sem] theorem k_nz_71 : nzOf Try.prog 71 = true := by kernel_rfl
@[go_sem] theorem k_ag_71 : aggOf Try.prog 71 = some false := by kernel_rfl
@[go_sem] theorem k_us_71 : (Try.prog.underlying 71).isSome = true := by kernel_rfl
@[go_sem] theorem k_cc_71 : concreteT Try.prog 71 = true := by kernel_rfl
@[go_sem] theorem k_st_71 : strOfT Try.prog 71 = false := by kernel_rfl
@[go_sem] theorem k_ik_71 : intOfT Try.prog 71 = none := by kernel_rfl
@[go_sem] theorem k_by_71 : bytesOfT Try.prog 71 = 0 := by kernel_rfl
@[go_sem] theorem k_el_71 : elemOf Try.prog 71 = none := by kernel_rfl
@[go_sem] theorem k_sz_72 : szOf Try.prog 72 = some 1 := by kernel_rfl
@[go_sem] theorem k_nz_72 : nzOf Try.prog 72 = true := by kernel_rfl
@[go_sem] theorem k_ag_72 : aggOf Try.prog 72 = some false := by kernel_rfl
@[go_sem] theorem k_us_72 : (Try.prog.underlying 72).isSome = true := by kernel_rfl
@[go_sem] theorem k_cc_72 : concreteT Try.prog 72 = true := by kernel_rfl
@[go_sem] theorem k_st_72 : strOfT Try.prog 72 = false := by kernel_rfl
@[go_sem] theorem k_ik_72 : intOfT Try.prog 72 = none := by kernel_rfl
@[go_sem] theorem k_by_72 : bytesOfT Try.prog 72 = 8 := by kernel_rfl
@[go_sem] theorem k_el_72 : elemOf Try.prog 72 = none := by kernel_rfl
@[go_sem] theorem k_ze_72 : zeroOf Try.prog 72 = some [.nilFunc] := by kernel_rfl
@[go_sem] theorem k_sz_73 : szOf Try.prog 73 = some 1 := by kernel_rfl
@[go_sem] theorem k_nz_73 : nzOf Try.prog 73 = true := by kernel_rfl
@[go_sem] theorem k_ag_73 : aggOf Try.prog 73 = some false := by kernel_rfl
@[go_sem] theorem k_us_73 : (Try.prog.underlying 73).isSome = true := by kernel_rfl
@[go_sem] theorem k_cc_73 : concreteT Try.prog 73 = true := by kernel_rfl
@[go_sem] theorem k_st_73 : strOfT Try.prog 73 = false := by kernel_rfl
@[go_sem] theorem k_ik_73 : intOfT Try.prog 73 = none := by kernel_rfl
@[go_sem] theorem k_by_73 : bytesOfT Try.prog 73 = 8 := by kernel_rfl
@[go_sem] theorem k_el_73 : elemOf Try.prog 73 = none := by kernel_rfl
@[go_sem] theorem k_ze_73 : zeroOf Try.prog 73 = some [.nilFunc] := by kernel_rfl
@[go_sem] theorem k_sz_74 : szOf Try.prog 74 = some 1 := by kernel_rfl
@[go_sem] theorem k_nz_74 : nzOf Try.prog 74 = true := by kernel_rfl
@[go_sem] theorem k_ag_74 : aggOf Try.prog 74 = some false := by kernel_rfl
@[go_sem] theorem k_us_74 : (Try.prog.underlying 74).isSome = true := by kernel_rfl
@[go_sem] theorem k_cc_74 : concreteT Try.prog 74 = true := by kernel_rfl
@[go_sem] theorem k_st_74 : strOfT Try.prog 74 = false := by kernel_rfl
@[go_sem] theorem k_ik_74 : intOfT Try.prog 74 = none := by kernel_rfl
@[go_sem] theorem k_by_74 : bytesOfT Try.prog 74 = 8 := by kernel_rfl
@[go_sem] theorem k_el_74 : elemOf Try.prog 74 = none := by kernel_rfl
@[go_sem] theorem k_ze_74 : zeroOf Try.prog 74 = some [.nilFunc] := by kernel_rfl
@[go_sem] theorem k_sz_75 : szOf Try.prog 75 = some 1 := by kernel_rfl
@[go_sem] theorem k_nz_75 : nzOf Try.prog 75 = true := by kernel_rfl
@[go_sem] theorem k_ag_75 : aggOf Try.prog 75 = some false := by kernel_rfl
@[go_sem] theorem k_us_75 : (Try.prog.underlying 75).isSome = true := by kernel_rfl
@[go_sem] theorem k_cc_75 : concreteT Try.prog 75 = true := by kernel_rfl
@[go_sem] theorem k_st_75 : strOfT Try.prog 75 = false := by kernel_rfl
@[go_sem] theorem k_ik_75 : intOfT Try.prog 75 = none := by kernel_rfl
@[go_sem] theorem k_by_75 : bytesOfT Try.prog 75 = 8 := by kernel_rfl
@[go_sem] theorem k_el_75 : elemOf Try.prog 75 = none := by kernel_rfl
@[go_sem] theorem k_ze_75 : zeroOf Try.prog 75 = some [.nilFunc] := by kernel_rfl
@[go_sem] theorem k_sz_76 : szOf Try.prog 76 = some 1 := by kernel_rfl
@[go_sem] theorem k_nz_76 : nzOf Try.prog 76 = true := by kernel_rfl
@[go_sem] theorem k_ag_76 : aggOf Try.prog 76 = some false := by kernel_rfl
@[go_sem] theorem k_us_76 : (Try.prog.underlying 76).isSome = true := by kernel_rfl
@[go_sem] theorem k_cc_76 : concreteT Try.prog 76 = true := by kernel_rfl
@[go_sem] theorem k_st_76 : strOfT Try.prog 76 = false := by kernel_rfl
@[go_sem] theorem k_ik_76 : intOfT Try.prog 76 = none := by kernel_rfl
@[go_sem] theorem k_by_76 : bytesOfT Try.prog 76 = 0 := by kernel_rfl
@[go_sem] theorem k_el_76 : elemOf Try.prog 76 = none := by kernel_rfl
@[go_sem] theorem k_sz_77 : szOf Try.prog 77 = some 1 := by kernel_rfl
@[go_sem] theorem k_nz_77 : nzOf Try.prog 77 = true := by kernel_rfl
@[go_sem] theorem k_ag_77 : aggOf Try.prog 77 = some false := by kernel_rfl
@[go_sem] theorem k_us_77 : (Try.prog.underlying 77).isSome = true := by kernel_rfl
@[go_sem] theorem k_cc_77 : concreteT Try.prog 77 = true := by kernel_rfl
@[go_sem] theorem k_st_77 : strOfT Try.prog 77 = false := by kernel_rfl
@[go_sem] theorem k_ik_77 : intOfT Try.prog 77 = none := by kernel_rfl
@[go_sem] theorem k_by_77 : bytesOfT Try.prog 77 = 8 := by kernel_rfl
@[go_sem] theorem k_el_77 : elemOf Try.prog 77 = none := by kernel_rfl
@[go_sem] theorem k_ze_77 : zeroOf Try.prog 77 = some [.nilFunc] := by kernel_rfl
@[go_sem] theorem k_sz_78 : szOf Try.prog 78 = some 1 := by kernel_rfl
@[go_sem] theorem k_nz_78 : nzOf Try.prog 78 = true := by kernel_rfl
@[go_sem] theorem k_ag_78 : aggOf Try.prog 78 = some false := by kernel_rfl
@[go_sem] theorem k_us_78 : (Try.prog.underlying 78).isSome = true := by kernel_rfl
@[go_sem] theorem k_cc_78 : concreteT Try.prog 78 = true := by kernel_rfl
@[go_sem] theorem k_st_78 : strOfT Try.prog 78 = false := by kernel_rfl
@[go_sem] theorem k_ik_78 : intOfT Try.prog 78 = none := by kernel_rfl
@[go_sem] theorem k_by_78 : bytesOfT Try.prog 78 = 8 := by kernel_rfl
@[go_sem] theorem k_el_78 : elemOf Try.prog 78 = none := by kernel_rfl
@[go_sem] theorem k_ze_78 : zeroOf Try.prog 78 = some [.nilFunc] := by kernel_rfl
@[go_sem] theorem k_sz_79 : szOf Try.prog 79 = some 1 := by kernel_rfl
@[go_sem] theorem k_nz_79 : nzOf Try.prog 79 = true := by kernel_rfl
@[go_sem] theorem k_ag_79 : aggOf Try.prog 79 = some false := by kernel_rfl
@[go_sem] theorem k_us_79 : (Try.prog.underlying 79).isSome = true := by kernel_rfl
@[go_sem] theorem k_cc_79 : concreteT Try.prog 79 = true := by kernel_rfl
@[go_sem] theorem k_st_79 : strOfT Try.prog 79 = false := by kernel_rfl
@[go_sem] theorem k_ik_79 : intOfT Try.prog 79 = some .u32 := by kernel_rfl
@[go_sem] theorem k_by_79 : bytesOfT Try.prog 79 = 4 := by kernel_rfl
@[go_sem] theorem k_el_79 : elemOf Try.prog 79 = none := by kernel_rfl
@[go_sem] theorem k_ze_79 : zeroOf Try.prog 79 = some [.int .u32 0] := by kernel_rfl
@[go_sem] theorem k_sz_80 : szOf Try.prog 80 = some 1 := by kernel_rfl
@[go_sem] theorem k_nz_80 : nzOf Try.prog 80 = true := by kernel_rfl
@[go_sem] theorem k_ag_80 : aggOf Try.prog 80 = some false := by kernel_rfl
@[go_sem] theorem k_us_80 : (Try.prog.underlying 80).isSome = true := by kernel_rfl
@[go_sem] theorem k_cc_80 : concreteT Try.prog 80 = true := by kernel_rfl
@[go_sem] theorem k_st_80 : strOfT Try.prog 80 = false := by kernel_rfl
@[go_sem] theorem k_ik_80 : intOfT Try.prog 80 = none := by kernel_rfl
@[go_sem] theorem k_by_80 : bytesOfT Try.prog 80 = 8 := by kernel_rfl
@[go_sem] theorem k_el_80 : elemOf Try.prog 80 = none := by kernel_rfl
@[go_sem] theorem k_ze_80 : zeroOf Try.prog 80 = some [.nilFunc] := by kernel_rfl
@[go_sem] theorem k_sz_81 : szOf Try.prog 81 = some 1 := by kernel_rfl
@[go_sem] theorem k_nz_81 : nzOf Try.prog 81 = true := by kernel_rfl
@[go_sem] theorem k_ag_81 : aggOf Try.prog 81 = some false := by kernel_rfl
@[go_sem] theorem k_us_81 : (Try.prog.underlying 81).isSome = true := by kernel_rfl
@[go_sem] theorem k_cc_81 : concreteT Try.prog 81 = true := by kernel_rfl
@[go_sem] theorem k_st_81 : strOfT Try.prog 81 = false := by kernel_rfl
@[go_sem] theorem k_ik_81 : intOfT Try.prog 81 = some .u64 := by kernel_rfl
@[go_sem] theorem k_by_81 : bytesOfT Try.prog 81 = 8 := by kernel_rfl
@[go_sem] theorem k_el_81 : elemOf Try.prog 81 = none := by kernel_rfl
@[go_sem] theorem k_ze_81 : zeroOf Try.prog 81 = some [.int .u64 0] := by kernel_rfl
@[go_sem] theorem k_sz_82 : szOf Try.prog 82 = some 1 := by kernel_rfl
@[go_sem] theorem k_nz_82 : nzOf Try.prog 82 = true := by kernel_rfl
@[go_sem] theorem k_ag_82 : aggOf Try.prog 82 = some false := by kernel_rfl
@[go_sem] theorem k_us_82 : (Try.prog.underlying 82).isSome = true := by kernel_rfl
@[go_sem] theorem k_cc_82 : concreteT Try.prog 82 = true := by kernel_rfl
@[go_sem] theorem k_st_82 : strOfT Try.prog 82 = false := by kernel_rfl
@[go_sem] theorem k_ik_82 : intOfT Try.prog 82 = some .u64 := by kernel_rfl
@[go_sem] theorem k_by_82 : bytesOfT Try.prog 82 = 8 := by kernel_rfl
@[go_sem] theorem k_el_82 : elemOf Try.prog 82 = none := by kernel_rfl
@[go_sem] theorem k_ze_82 : zeroOf Try.prog 82 = some [.int .u64 0] := by kernel_rfl
@[go_sem] theorem k_sz_83 : szOf Try.prog 83 = some 1 := by kernel_rfl
@[go_sem] theorem k_nz_83 : nzOf Try.prog 83 = true := by kernel_rfl
@[go_sem] theorem k_ag_83 : aggOf Try.prog 83 = some false := by kernel_rfl
@[go_sem] theorem k_us_83 : (Try.prog.underlying 83).isSome = true := by kernel_rfl
@[go_sem] theorem k_cc_83 : concreteT Try.prog 83 = true := by kernel_rfl
@[go_sem] theorem k_st_83 : strOfT Try.prog 83 = false := by kernel_rfl
@[go_sem] theorem k_ik_83 : intOfT Try.prog 83 = none := by kernel_rfl
@[go_sem] theorem k_by_83 : bytesOfT Try.prog 83 = 8 := by kernel_rfl
@[go_sem] theorem k_el_83 : elemOf Try.prog 83 = none := by kernel_rfl
@[go_sem] theorem k_ze_83 : zeroOf Try.prog 83 = some [.nilFunc] := by kernel_rfl
@[go_sem] theorem k_sz_84 : szOf Try.prog 84 = some 1 := by kernel_rfl
@[go_sem] theorem k_nz_84 : nzOf Try.prog 84 = true := by kernel_rfl
@[go_sem] theorem k_ag_84 : aggOf Try.prog 84 = some false := by kernel_rfl
@[go_sem] theorem k_us_84 : (Try.prog.underlying 84).isSome = true := by kernel_rfl
@[go_sem] theorem k_cc_84 : concreteT Try.prog 84 = true := by kernel_rfl
@[go_sem] theorem k_st_84 : strOfT Try.prog 84 = false := by kernel_rfl
@[go_sem] theorem k_ik_84 : intOfT Try.prog 84 = none := by kernel_rfl
@[go_sem] theorem k_by_84 : bytesOfT Try.prog 84 = 8 := by kernel_rfl
@[go_sem] theorem k_el_84 : elemOf Try.prog 84 = none := by kernel_rfl
@[go_sem] theorem k_ze_84 : zeroOf Try.prog 84 = some [.nilFunc] := by kernel_rfl
@[go_sem] theorem k_sz_85 : szOf Try.prog 85 = some 1 := by kernel_rfl
@[go_sem] theorem k_nz_85 : nzOf Try.prog 85 = true := by kernel_rfl
@[go_sem] theorem k_ag_85 : aggOf Try.prog 85 = some false := by kernel_rfl
@[go_sem] theorem k_us_85 : (Try.prog.underlying 85).isSome = true := by kernel_rfl
@[go_sem] theorem k_cc_85 : concreteT Try.prog 85 = true := by kernel_rfl
@[go_sem] theorem k_st_85 : strOfT Try.prog 85 = false := by kernel_rfl
@[go_sem] theorem k_ik_85 : intOfT Try.prog 85 = none := by kernel_rfl
@[go_sem] theorem k_by_85 : bytesOfT Try.prog 85 = 8 := by kernel_rfl
@[go_sem] theorem k_el_85 : elemOf Try.prog 85 = none := by kernel_rfl
@[go_sem] theorem k_ze_85 : zeroOf Try.prog 85 = some [.nilFunc] := by kernel_rfl
@[go_sem] theorem k_sz_86 : szOf Try.prog 86 = some 1 := by kernel_rfl
@[go_sem] theorem k_nz_86 : nzOf Try.prog 86 = true := by kernel_rfl
@[go_sem] theorem k_ag_86 : aggOf Try.prog 86 = some false := by kernel_rfl
@[go_sem] theorem k_us_86 : (Try.prog.underlying 86).isSome = true := by kernel_rfl
@[go_sem] theorem k_cc_86 : concreteT Try.prog 86 = true := by kernel_rfl
@[go_sem] theorem k_st_86 : strOfT Try.prog 86 = false := by kernel_rfl
@[go_sem] theorem k_ik_86 : intOfT Try.prog 86 = none := by kernel_rfl
@[go_sem] theorem k_by_86 : bytesOfT Try.prog 86 = 8 := by kernel_rfl
@[go_sem] theorem k_el_86 : elemOf Try.prog 86 = none := by kernel_rfl
@[go_sem] theorem k_ze_86 : zeroOf Try.prog 86 = some [.pointer none] := by kernel_rfl
@[go_sem] theorem k_sz_87 : szOf Try.prog 87 = some 1 := by kernel_rfl
@[go_sem] theorem k_nz_87 : nzOf Try.prog 87 = true := by kernel_rfl
@[go_sem] theorem k_ag_87 : aggOf Try.prog 87 = some false := by kernel_rfl
@[go_sem] theorem k_us_87 : (Try.prog.underlying 87).isSome = true := by kernel_rfl
@[go_sem] theorem k_cc_87 : concreteT Try.prog 87 = true := by kernel_rfl
@[go_sem] theorem k_st_87 : strOfT Try.prog 87 = false := by kernel_rfl
@[go_sem] theorem k_ik_87 : intOfT Try.prog 87 = none := by kernel_rfl
@[go_sem] theorem k_by_87 : bytesOfT Try.prog 87 = 8 := by kernel_rfl
@[go_sem] theorem k_el_87 : elemOf Try.prog 87 = none := by kernel_rfl
@[go_sem] theorem k_ze_87 : zeroOf Try.prog 87 = some [.nilFunc] := by kernel_rfl
@[go_sem] theorem k_sz_88 : szOf Try.prog 88 = some 1 := by kernel_rfl
@[go_sem] theorem k_nz_88 : nzOf Try.prog 88 = true := by kernel_rfl
@[go_sem] theorem k_ag_88 : aggOf Try.prog 88 = some false := by kernel_rfl
@[go_sem] theorem k_us_88 : (Try.prog.underlying 88).isSome = true := by kernel_rfl
@[go_sem] theorem k_cc_88 : concreteT Try.prog 88 = true := by kernel_rfl
@[go_sem] theorem k_st_88 : strOfT Try.prog 88 = false := by kernel_rfl
@[go_sem] theorem k_ik_88 : intOfT Try.prog 88 = none := by kernel_rfl
@[go_sem] theorem k_by_88 : bytesOfT Try.prog 88 = 8 := by kernel_rfl
@[go_sem] theorem k_el_88 : elemOf Try.prog 88 = none := by kernel_rfl
@[go_sem] theorem k_ze_88 : zeroOf Try.prog 88 = some [.pointer none] := by kernel_rfl
@[go_sem] theorem k_sz_89 : szOf Try.prog 89 = some 1 := by kernel_rfl
@[go_sem] theorem k_nz_89 : nzOf Try.prog 89 = true := by kernel_rfl
@[go_sem] theorem k_ag_89 : aggOf Try.prog 89 = some false := by kernel_rfl
@[go_sem] theorem k_us_89 : (Try.prog.underlying 89).isSome = true := by kernel_rfl
@[go_sem] theorem k_cc_89 : concreteT Try.prog 89 = true := by kernel_rfl
@[go_sem] theorem k_st_89 : strOfT Try.prog 89 = false := by kernel_rfl
@[go_sem] theorem k_ik_89 : intOfT Try.prog 89 = none := by kernel_rfl
@[go_sem] theorem k_by_89 : bytesOfT Try.prog 89 = 0 := by kernel_rfl
@[go_sem] theorem k_el_89 : elemOf Try.prog 89 = none := by kernel_rfl
@[go_sem] theorem k_sz_90 : szOf Try.prog 90 = some 1 := by kernel_rfl
@[go_sem] theorem k_nz_90 : nzOf Try.prog 90 = true := by kernel_rfl
@[go_sem] theorem k_ag_90 : aggOf Try.prog 90 = some false := by kernel_rfl
@[go_sem] theorem k_us_90 : (Try.prog.underlying 90).isSome = true := by kernel_rfl
@[go_sem] theorem k_cc_90 : concreteT Try.prog 90 = true := by kernel_rfl
@[go_sem] theorem k_st_90 : strOfT Try.prog 90 = false := by kernel_rfl
@[go_sem] theorem k_ik_90 : intOfT Try.prog 90 = none := by kernel_rfl
@[go_sem] theorem k_by_90 : bytesOfT Try.prog 90 = 8 := by kernel_rfl
@[go_sem] theorem k_el_90 : elemOf Try.prog 90 = none := by kernel_rfl
@[go_sem] theorem k_ze_90 : zeroOf Try.prog 90 = some [.nilFunc] := by kernel_rfl
@[go_sem] theorem k_sz_91 : szOf Try.prog 91 = some 1 := by kernel_rfl
@[go_sem] theorem k_nz_91 : nzOf Try.prog 91 = true := by kernel_rfl
@[go_sem] theorem k_ag_91 : aggOf Try.prog 91 = some false := by kernel_rfl
@[go_sem] theorem k_us_91 : (Try.prog.underlying 91).isSome = true := by kernel_rfl
@[go_sem] theorem k_cc_91 : concreteT Try.prog 91 = true := by kernel_rfl
@[go_sem] theorem k_st_91 : strOfT Try.prog 91 = false := by kernel_rfl
@[go_sem] theorem k_ik_91 : intOfT Try.prog 91 = none := by kernel_rfl
@[go_sem] theorem k_by_91 : bytesOfT Try.prog 91 = 8 := by kernel_rfl
@[go_sem] theorem k_el_91 : elemOf Try.prog 91 = none := by kernel_rfl
@[go_sem] theorem k_ze_91 : zeroOf Try.prog 91 = some [.nilFunc] := by kernel_rfl
@[go_sem] theorem k_sz_92 : szOf Try.prog 92 = some 4 := by kernel_rfl
@[go_sem] theorem k_nz_92 : nzOf Try.prog 92 = true := by kernel_rfl
@[go_sem] theorem k_ag_92 : aggOf Try.prog 92 = some true := by kernel_rfl
@[go_sem] theorem k_us_92 : (Try.prog.underlying 92).isSome = true := by kernel_rfl
@[go_sem] theorem k_cc_92 : concreteT Try.prog 92 = true := by kernel_rfl
@[go_sem] theorem k_st_92 : strOfT Try.prog 92 = false := by kernel_rfl
@[go_sem] theorem k_ik_92 : intOfT Try.prog 92 = none := by kernel_rfl
@[go_sem] theorem k_by_92 : bytesOfT Try.prog 92 = 40 := by kernel_rfl
@[go_sem] theorem k_el_92 : elemOf Try.prog 92 = none := by kernel_rfl
@[go_sem] theorem k_ze_92 : zeroOf Try.prog 92 = some [.pointer none, .pointer none, .pointer none, .string ⟨#[]⟩] := by kernel_rfl
@[go_sem] theorem k_fi_92_0 : fieldOf Try.prog 92 0 = some (0, 17) := by kernel_rfl
@[go_sem] theorem k_fi_92_1 : fieldOf Try.prog 92 1 = some (1, 17) := by kernel_rfl
@[go_sem] theorem k_fi_92_2 : fieldOf Try.prog 92 2 = some (2, 17) := by kernel_rfl
@[go_sem] theorem k_fi_92_3 : fieldOf Try.prog 92 3 = some (3, 9) := by kernel_rfl
@[go_sem] theorem k_pl_92 : placesOf Try.prog 92 = some [(0, 1), (1, 1), (2, 1), (3, 1)] := by kernel_rfl
@[go_sem] theorem k_sz_93 : szOf Try.prog 93 = some 4 := by kernel_rfl
@[go_sem] theorem k_nz_93 : nzOf Try.prog 93 = true := by kernel_rfl
@[go_sem] theorem k_ag_93 : aggOf Try.prog 93 = some true := by kernel_rfl
@[go_sem] theorem k_us_93 : (Try.prog.underlying 93).isSome = true := by kernel_rfl
@[go_sem] theorem k_cc_93 : concreteT Try.prog 93 = true := by kernel_rfl
@[go_sem] theorem k_st_93 : strOfT Try.prog 93 = false := by kernel_rfl
@[go_sem] theorem k_ik_93 : intOfT Try.prog 93 = none := by kernel_rfl
@[go_sem] theorem k_by_93 : bytesOfT Try.prog 93 = 40 := by kernel_rfl
@[go_sem] theorem k_el_93 : elemOf Try.prog 93 = none := by kernel_rfl
@[go_sem] theorem k_ze_93 : zeroOf Try.prog 93 = some [.pointer none, .pointer none, .pointer none, .string ⟨#[]⟩] := by kernel_rfl
@[go_sem] theorem k_fi_93_0 : fieldOf Try.prog 93 0 = some (0, 17) := by kernel_rfl
@[go_sem] theorem k_fi_93_1 : fieldOf Try.prog 93 1 = some (1, 17) := by kernel_rfl
@[go_sem] theorem k_fi_93_2 : fieldOf Try.prog 93 2 = some (2, 17) := by kernel_rfl
@[go_sem] theorem k_fi_93_3 : fieldOf Try.prog 93 3 = some (3, 9) := by kernel_rfl
@[go_sem] theorem k_pl_93 : placesOf Try.prog 93 = some [(0, 1), (1, 1), (2, 1), (3, 1)] := by kernel_rfl
@[go_sem] theorem k_sz_94 : szOf Try.prog 94 = some 0 := by kernel_rfl
@[go_sem] theorem k_nz_94 : nzOf Try.prog 94 = false := by kernel_rfl
@[go_sem] theorem k_ag_94 : aggOf Try.prog 94 = some true := by kernel_rfl
@[go_sem] theorem k_us_94 : (Try.prog.underlying 94).isSome = true := by kernel_rfl
@[go_sem] theorem k_cc_94 : concreteT Try.prog 94 = true := by kernel_rfl
@[go_sem] theorem k_st_94 : strOfT Try.prog 94 = false := by kernel_rfl
@[go_sem] theorem k_ik_94 : intOfT Try.prog 94 = none := by kernel_rfl
@[go_sem] theorem k_by_94 : bytesOfT Try.prog 94 = 0 := by kernel_rfl
@[go_sem] theorem k_el_94 : elemOf Try.prog 94 = none := by kernel_rfl
@[go_sem] theorem k_ze_94 : zeroOf Try.prog 94 = some [] := by kernel_rfl
@[go_sem] theorem k_sz_95 : szOf Try.prog 95 = some 0 := by kernel_rfl
@[go_sem] theorem k_nz_95 : nzOf Try.prog 95 = false := by kernel_rfl
@[go_sem] theorem k_ag_95 : aggOf Try.prog 95 = some true := by kernel_rfl
@[go_sem] theorem k_us_95 : (Try.prog.underlying 95).isSome = true := by kernel_rfl
@[go_sem] theorem k_cc_95 : concreteT Try.prog 95 = true := by kernel_rfl
@[go_sem] theorem k_st_95 : strOfT Try.prog 95 = false := by kernel_rfl
@[go_sem] theorem k_ik_95 : intOfT Try.prog 95 = none := by kernel_rfl
@[go_sem] theorem k_by_95 : bytesOfT Try.prog 95 = 0 := by kernel_rfl
@[go_sem] theorem k_el_95 : elemOf Try.prog 95 = none := by kernel_rfl
@[go_sem] theorem k_ze_95 : zeroOf Try.prog 95 = some [] := by kernel_rfl
@[go_sem] theorem k_fi_95_0 : fieldOf Try.prog 95 0 = some (0, 94) := by kernel_rfl
@[go_sem] theorem k_pl_95 : placesOf Try.prog 95 = some [(0, 0)] := by kernel_rfl
@[go_sem] theorem k_sz_96 : szOf Try.prog 96 = some 0 := by kernel_rfl
@[go_sem] theorem k_nz_96 : nzOf Try.prog 96 = false := by kernel_rfl
@[go_sem] theorem k_ag_96 : aggOf Try.prog 96 = some true := by kernel_rfl
@[go_sem] theorem k_us_96 : (Try.prog.underlying 96).isSome = true := by kernel_rfl
@[go_sem] theorem k_cc_96 : concreteT Try.prog 96 = true := by kernel_rfl
@[go_sem] theorem k_st_96 : strOfT Try.prog 96 = false := by kernel_rfl
@[go_sem] theorem k_ik_96 : intOfT Try.prog 96 = none := by kernel_rfl
@[go_sem] theorem k_by_96 : bytesOfT Try.prog 96 = 0 := by kernel_rfl
@[go_sem] theorem k_el_96 : elemOf Try.prog 96 = none := by kernel_rfl
@[go_sem] theorem k_ze_96 : zeroOf Try.prog 96 = some [] := by kernel_rfl
@[go_sem] theorem k_fi_96_0 : fieldOf Try.prog 96 0 = some (0, 94) := by kernel_rfl
@[go_sem] theorem k_pl_96 : placesOf Try.prog 96 = some [(0, 0)] := by kernel_rfl
@[go_sem] theorem k_sz_97 : szOf Try.prog 97 = some 1 := by kernel_rfl
@[go_sem] theorem k_nz_97 : nzOf Try.prog 97 = true := by kernel_rfl
@[go_sem] theorem k_ag_97 : aggOf Try.prog 97 = some false := by kernel_rfl
@[go_sem] theorem k_us_97 : (Try.prog.underlying 97).isSome = true := by kernel_rfl
@[go_sem] theorem k_cc_97 : concreteT Try.prog 97 = true := by kernel_rfl
@[go_sem] theorem k_st_97 : strOfT Try.prog 97 = false := by kernel_rfl
@[go_sem] theorem k_ik_97 : intOfT Try.prog 97 = none := by kernel_rfl
@[go_sem] theorem k_by_97 : bytesOfT Try.prog 97 = 8 := by kernel_rfl
@[go_sem] theorem k_el_97 : elemOf Try.prog 97 = none := by kernel_rfl
@[go_sem] theorem k_ze_97 : zeroOf Try.prog 97 = some [.nilFunc] := by kernel_rfl
@[go_sem] theorem k_sz_98 : szOf Try.prog 98 = some 1 := by kernel_rfl
@[go_sem] theorem k_nz_98 : nzOf Try.prog 98 = true := by kernel_rfl
@[go_sem] theorem k_ag_98 : aggOf Try.prog 98 = some false := by kernel_rfl
@[go_sem] theorem k_us_98 : (Try.prog.underlying 98).isSome = true := by kernel_rfl
@[go_sem] theorem k_cc_98 : concreteT Try.prog 98 = true := by kernel_rfl
@[go_sem] theorem k_st_98 : strOfT Try.prog 98 = false := by kernel_rfl
@[go_sem] theorem k_ik_98 : intOfT Try.prog 98 = some .u8 := by kernel_rfl
@[go_sem] theorem k_by_98 : bytesOfT Try.prog 98 = 1 := by kernel_rfl
@[go_sem] theorem k_el_98 : elemOf Try.prog 98 = none := by kernel_rfl
@[go_sem] theorem k_ze_98 : zeroOf Try.prog 98 = some [.int .u8 0] := by kernel_rfl
@[go_sem] theorem k_sz_99 : szOf Try.prog 99 = some 1 := by kernel_rfl
@[go_sem] theorem k_nz_99 : nzOf Try.prog 99 = true := by kernel_rfl
@[go_sem] theorem k_ag_99 : aggOf Try.prog 99 = some false := by kernel_rfl
@[go_sem] theorem k_us_99 : (Try.prog.underlying 99).isSome = true := by kernel_rfl
@[go_sem] theorem k_cc_99 : concreteT Try.prog 99 = true := by kernel_rfl
@[go_sem] theorem k_st_99 : strOfT Try.prog 99 = false := by kernel_rfl
@[go_sem] theorem k_ik_99 : intOfT Try.prog 99 = some .u8 := by kernel_rfl
@[go_sem] theorem k_by_99 : bytesOfT Try.prog 99 = 1 := by kernel_rfl
@[go_sem] theorem k_el_99 : elemOf Try.prog 99 = none := by kernel_rfl
@[go_sem] theorem k_ze_99 : zeroOf Try.prog 99 = some [.int .u8 0] := by kernel_rfl
@[go_sem] theorem k_sz_100 : szOf Try.prog 100 = some 1 := by kernel_rfl
@[go_sem] theorem k_nz_100 : nzOf Try.prog 100 = true := by kernel_rfl
@[go_sem] theorem k_ag_100 : aggOf Try.prog 100 = some false := by kernel_rfl
@[go_sem] theorem k_us_100 : (Try.prog.underlying 100).isSome = true := by kernel_rfl
@[go_sem] theorem k_cc_100 : concreteT Try.prog 100 = true := by kernel_rfl
@[go_sem] theorem k_st_100 : strOfT Try.prog 100 = false := by kernel_rfl
@[go_sem] theorem k_ik_100 : intOfT Try.prog 100 = none := by kernel_rfl
@[go_sem] theorem k_by_100 : bytesOfT Try.prog 100 = 8 := by kernel_rfl
@[go_sem] theorem k_el_100 : elemOf Try.prog 100 = none := by kernel_rfl
@[go_sem] theorem k_ze_100 : zeroOf Try.prog 100 = some [.nilFunc] := by kernel_rfl
@[go_sem] theorem k_sz_101 : szOf Try.prog 101 = some 1 := by kernel_rfl
@[go_sem] theorem k_nz_101 : nzOf Try.prog 101 = true := by kernel_rfl
@[go_sem] theorem k_ag_101 : aggOf Try.prog 101 = some false := by kernel_rfl
@[go_sem] theorem k_us_101 : (Try.prog.underlying 101).isSome = true := by kernel_rfl
@[go_sem] theorem k_cc_101 : concreteT Try.prog 101 = true := by kernel_rfl
@[go_sem] theorem k_st_101 : strOfT Try.prog 101 = false := by kernel_rfl
@[go_sem] theorem k_ik_101 : intOfT Try.prog 101 = none := by kernel_rfl
@[go_sem] theorem k_by_101 : bytesOfT Try.prog 101 = 8 := by kernel_rfl
@[go_sem] theorem k_el_101 : elemOf Try.prog 101 = none := by kernel_rfl
@[go_sem] theorem k_ze_101 : zeroOf Try.prog 101 = some [.pointer none] := by kernel_rfl
@[go_sem] theorem k_sz_102 : szOf Try.prog 102 = some 1 := by kernel_rfl
@[go_sem] theorem k_nz_102 : nzOf Try.prog 102 = true := by kernel_rfl
@[go_sem] theorem k_ag_102 : aggOf Try.prog 102 = some false := by kernel_rfl
@[go_sem] theorem k_us_102 : (Try.prog.underlying 102).isSome = true := by kernel_rfl
@[go_sem] theorem k_cc_102 : concreteT Try.prog 102 = true := by kernel_rfl
@[go_sem] theorem k_st_102 : strOfT Try.prog 102 = false := by kernel_rfl
@[go_sem] theorem k_ik_102 : intOfT Try.prog 102 = some .i32 := by kernel_rfl
@[go_sem] theorem k_by_102 : bytesOfT Try.prog 102 = 4 := by kernel_rfl
@[go_sem] theorem k_el_102 : elemOf Try.prog 102 = none := by kernel_rfl
@[go_sem] theorem k_ze_102 : zeroOf Try.prog 102 = some [.int .i32 0] := by kernel_rfl
@[go_sem] theorem k_sz_103 : szOf Try.prog 103 = some 1 := by kernel_rfl
@[go_sem] theorem k_nz_103 : nzOf Try.prog 103 = true := by kernel_rfl
@[go_sem] theorem k_ag_103 : aggOf Try.prog 103 = some false := by kernel_rfl
@[go_sem] theorem k_us_103 : (Try.prog.underlying 103).isSome = true := by kernel_rfl
@[go_sem] theorem k_cc_103 : concreteT Try.prog 103 = true := by kernel_rfl
@[go_sem] theorem k_st_103 : strOfT Try.prog 103 = false := by kernel_rfl
@[go_sem] theorem k_ik_103 : intOfT Try.prog 103 = some .i32 := by kernel_rfl
@[go_sem] theorem k_by_103 : bytesOfT Try.prog 103 = 4 := by kernel_rfl
@[go_sem] theorem k_el_103 : elemOf Try.prog 103 = none := by kernel_rfl
@[go_sem] theorem k_ze_103 : zeroOf Try.prog 103 = some [.int .i32 0] := by kernel_rfl
@[go_sem] theorem k_sz_104 : szOf Try.prog 104 = some 11 := by kernel_rfl
@[go_sem] theorem k_nz_104 : nzOf Try.prog 104 = true := by kernel_rfl
@[go_sem] theorem k_ag_104 : aggOf Try.prog 104 = some true := by kernel_rfl
@[go_sem] theorem k_us_104 : (Try.prog.underlying 104).isSome = true := by kernel_rfl
@[go_sem] theorem k_cc_104 : concreteT Try.prog 104 = true := by kernel_rfl
@[go_sem] theorem k_st_104 : strOfT Try.prog 104 = false := by kernel_rfl
@[go_sem] theorem k_ik_104 : intOfT Try.prog 104 = none := by kernel_rfl
@[go_sem] theorem k_by_104 : bytesOfT Try.prog 104 = 48 := by kernel_rfl
@[go_sem] theorem k_el_104 : elemOf Try.prog 104 = none := by kernel_rfl
@[go_sem] theorem k_ze_104 : zeroOf Try.prog 104 = some [.int .u64 0, .int .u64 0, .int .u32 0, .int .u8 0, .int .u8 0, .int .u8 0, .int .u8 0, .nilFunc, .pointer none, .int .i32 0, .int .i32 0] := by kernel_rfl
@[go_sem] theorem k_fi_104_0 : fieldOf Try.prog 104 0 = some (0, 12) := by kernel_rfl
@[go_sem] theorem k_fi_104_1 : fieldOf Try.prog 104 1 = some (1, 12) := by kernel_rfl
@[go_sem] theorem k_fi_104_2 : fieldOf Try.prog 104 2 = some (2, 79) := by kernel_rfl
@[go_sem] theorem k_fi_104_3 : fieldOf Try.prog 104 3 = some (3, 98) := by kernel_rfl
@[go_sem] theorem k_fi_104_4 : fieldOf Try.prog 104 4 = some (4, 5) := by kernel_rfl
@[go_sem] theorem k_fi_104_5 : fieldOf Try.prog 104 5 = some (5, 5) := by kernel_rfl
@[go_sem] theorem k_fi_104_6 : fieldOf Try.prog 104 6 = some (6, 99) := by kernel_rfl
@[go_sem] theorem k_fi_104_7 : fieldOf Try.prog 104 7 = some (7, 100) := by kernel_rfl
@[go_sem] theorem k_fi_104_8 : fieldOf Try.prog 104 8 = some (8, 101) := by kernel_rfl
@[go_sem] theorem k_fi_104_9 : fieldOf Try.prog 104 9 = some (9, 102) := by kernel_rfl
@[go_sem] theorem k_fi_104_10 : fieldOf Try.prog 104 10 = some (10, 103) := by kernel_rfl
@[go_sem] theorem k_pl_104 : placesOf Try.prog 104 = some [(0, 1), (1, 1), (2, 1), (3, 1), (4, 1), (5, 1), (6, 1), (7, 1), (8, 1), (9, 1), (10, 1)] := by kernel_rfl
@[go_sem] theorem k_sz_105 : szOf Try.prog 105 = some 11 := by kernel_rfl
@[go_sem] theorem k_nz_105 : nzOf Try.prog 105 = true := by kernel_rfl
@[go_sem] theorem k_ag_105 : aggOf Try.prog 105 = some true := by kernel_rfl
@[go_sem] theorem k_us_105 : (Try.prog.underlying 105).isSome = true := by kernel_rfl
@[go_sem] theorem k_cc_105 : concreteT Try.prog 105 = true := by kernel_rfl
@[go_sem] theorem k_st_105 : strOfT Try.prog 105 = false := by kernel_rfl
@[go_sem] theorem k_ik_105 : intOfT Try.prog 105 = none := by kernel_rfl
@[go_sem] theorem k_by_105 : bytesOfT Try.prog 105 = 48 := by kernel_rfl
@[go_sem] theorem k_el_105 : elemOf Try.prog 105 = none := by kernel_rfl
@[go_sem] theorem k_ze_105 : zeroOf Try.prog 105 = some [.int .u64 0, .int .u64 0, .int .u32 0, .int .u8 0, .int .u8 0, .int .u8 0, .int .u8 0, .nilFunc, .pointer none, .int .i32 0, .int .i32 0] := by kernel_rfl
@[go_sem] theorem k_fi_105_0 : fieldOf Try.prog 105 0 = some (0, 12) := by kernel_rfl
@[go_sem] theorem k_fi_105_1 : fieldOf Try.prog 105 1 = some (1, 12) := by kernel_rfl
@[go_sem] theorem k_fi_105_2 : fieldOf Try.prog 105 2 = some (2, 79) := by kernel_rfl
@[go_sem] theorem k_fi_105_3 : fieldOf Try.prog 105 3 = some (3, 98) := by kernel_rfl
@[go_sem] theorem k_fi_105_4 : fieldOf Try.prog 105 4 = some (4, 5) := by kernel_rfl
@[go_sem] theorem k_fi_105_5 : fieldOf Try.prog 105 5 = some (5, 5) := by kernel_rfl
@[go_sem] theorem k_fi_105_6 : fieldOf Try.prog 105 6 = some (6, 99) := by kernel_rfl
@[go_sem] theorem k_fi_105_7 : fieldOf Try.prog 105 7 = some (7, 100) := by kernel_rfl
@[go_sem] theorem k_fi_105_8 : fieldOf Try.prog 105 8 = some (8, 101) := by kernel_rfl
@[go_sem] theorem k_fi_105_9 : fieldOf Try.prog 105 9 = some (9, 102) := by kernel_rfl
@[go_sem] theorem k_fi_105_10 : fieldOf Try.prog 105 10 = some (10, 103) := by kernel_rfl
@[go_sem] theorem k_pl_105 : placesOf Try.prog 105 = some [(0, 1), (1, 1), (2, 1), (3, 1), (4, 1), (5, 1), (6, 1), (7, 1), (8, 1), (9, 1), (10, 1)] := by kernel_rfl
@[go_sem] theorem k_sz_106 : szOf Try.prog 106 = some 1 := by kernel_rfl
@[go_sem] theorem k_nz_106 : nzOf Try.prog 106 = true := by kernel_rfl
@[go_sem] theorem k_ag_106 : aggOf Try.prog 106 = some false := by kernel_rfl
@[go_sem] theorem k_us_106 : (Try.prog.underlying 106).isSome = true := by kernel_rfl
@[go_sem] theorem k_cc_106 : concreteT Try.prog 106 = true := by kernel_rfl
@[go_sem] theorem k_st_106 : strOfT Try.prog 106 = false := by kernel_rfl
@[go_sem] theorem k_ik_106 : intOfT Try.prog 106 = none := by kernel_rfl
@[go_sem] theorem k_by_106 : bytesOfT Try.prog 106 = 8 := by kernel_rfl
@[go_sem] theorem k_el_106 : elemOf Try.prog 106 = none := by kernel_rfl
@[go_sem] theorem k_ze_106 : zeroOf Try.prog 106 = some [.pointer none] := by kernel_rfl
@[go_sem] theorem k_mp_54 : mapOfT Try.prog 54 = some (.i64, 3) := by kernel_rfl
@[go_sem] theorem k_zv_3 : zeroVal Try.prog 3 = some (.int .i64 0) := by kernel_rfl
@[go_sem] theorem k_ok_0 : callOk Try.prog 0 = false := by kernel_rfl
@[go_sem] theorem k_ok_1 : callOk Try.prog 1 = false := by kernel_rfl
@[go_sem] theorem k_ok_2 : callOk Try.prog 2 = true := by kernel_rfl
@[go_sem] theorem k_ok_3 : callOk Try.prog 3 = true := by kernel_rfl
@[go_sem] theorem k_ok_4 : callOk Try.prog 4 = true := by kernel_rfl
@[go_sem] theorem k_ok_5 : callOk Try.prog 5 = true := by kernel_rfl
@[go_sem] theorem k_ok_6 : callOk Try.prog 6 = true := by kernel_rfl
@[go_sem] theorem k_ok_7 : callOk Try.prog 7 = true := by kernel_rfl
@[go_sem] theorem k_ok_8 : callOk Try.prog 8 = true := by kernel_rfl
@[go_sem] theorem k_ok_9 : callOk Try.prog 9 = true := by kernel_rfl
@[go_sem] theorem k_ok_10 : callOk Try.prog 10 = true := by kernel_rfl
@[go_sem] theorem k_ok_11 : callOk Try.prog 11 = true := by kernel_rfl
@[go_sem] theorem k_ok_12 : callOk Try.prog 12 = true := by kernel_rfl
@[go_sem] theorem k_ok_13 : callOk Try.prog 13 = true := by kernel_rfl
@[go_sem] theorem k_ok_14 : callOk Try.prog 14 = true := by kernel_rfl
@[go_sem] theorem k_ok_15 : callOk Try.prog 15 = true := by kernel_rfl
@[go_sem] theorem k_ok_16 : callOk Try.prog 16 = true := by kernel_rfl
@[go_sem] theorem k_ok_17 : callOk Try.prog 17 = true := by kernel_rfl
@[go_sem] theorem k_ok_18 : callOk Try.prog 18 = true := by kernel_rfl
@[go_sem] theorem k_ok_19 : callOk Try.prog 19 = true := by kernel_rfl
@[go_sem] theorem k_ok_20 : callOk Try.prog 20 = true := by kernel_rfl
@[go_sem] theorem k_ok_21 : callOk Try.prog 21 = true := by kernel_rfl
@[go_sem] theorem k_ok_22 : callOk Try.prog 22 = true := by kernel_rfl
@[go_sem] theorem k_ok_23 : callOk Try.prog 23 = true := by kernel_rfl
@[go_sem] theorem k_ok_24 : callOk Try.prog 24 = true := by kernel_rfl
@[go_sem] theorem k_ok_25 : callOk Try.prog 25 = true := by kernel_rfl
@[go_sem] theorem k_ok_26 : callOk Try.prog 26 = true := by kernel_rfl
@[go_sem] theorem k_ok_27 : callOk Try.prog 27 = true := by kernel_rfl
@[go_sem] theorem k_ok_28 : callOk Try.prog 28 = true := by kernel_rfl
@[go_sem] theorem k_ok_29 : callOk Try.prog 29 = true := by kernel_rfl
@[go_sem] theorem k_ok_30 : callOk Try.prog 30 = true := by kernel_rfl
@[go_sem] theorem k_ok_31 : callOk Try.prog 31 = true := by kernel_rfl
@[go_sem] theorem k_ok_32 : callOk Try.prog 32 = true := by kernel_rfl
@[go_sem] theorem k_ok_33 : callOk Try.prog 33 = true := by kernel_rfl
@[go_sem] theorem k_ok_34 : callOk Try.prog 34 = true := by kernel_rfl
@[go_sem] theorem k_ok_35 : callOk Try.prog 35 = true := by kernel_rfl
@[go_sem] theorem k_ok_36 : callOk Try.prog 36 = true := by kernel_rfl
@[go_sem] theorem k_ok_37 : callOk Try.prog 37 = true := by kernel_rfl
@[go_sem] theorem k_ok_38 : callOk Try.prog 38 = true := by kernel_rfl
@[go_sem] theorem k_ok_39 : callOk Try.prog 39 = true := by kernel_rfl
@[go_sem] theorem k_ok_40 : callOk Try.prog 40 = true := by kernel_rfl
@[go_sem] theorem k_ok_41 : callOk Try.prog 41 = true := by kernel_rfl
@[go_sem] theorem k_ok_42 : callOk Try.prog 42 = true := by kernel_rfl
@[go_sem] theorem k_ok_43 : callOk Try.prog 43 = true := by kernel_rfl
@[go_sem] theorem k_ok_44 : callOk Try.prog 44 = true := by kernel_rfl
@[go_sem] theorem k_ok_45 : callOk Try.prog 45 = true := by kernel_rfl
@[go_sem] theorem k_ok_46 : callOk Try.prog 46 = true := by kernel_rfl
@[go_sem] theorem k_ok_47 : callOk Try.prog 47 = true := by kernel_rfl
@[go_sem] theorem k_ok_48 : callOk Try.prog 48 = false := by kernel_rfl
@[go_sem] theorem k_ok_49 : callOk Try.prog 49 = false := by kernel_rfl
@[go_sem] theorem k_ok_50 : callOk Try.prog 50 = false := by kernel_rfl
@[go_sem] theorem k_ok_51 : callOk Try.prog 51 = false := by kernel_rfl
@[go_sem] theorem k_ok_52 : callOk Try.prog 52 = false := by kernel_rfl
@[go_sem] theorem k_ok_53 : callOk Try.prog 53 = false := by kernel_rfl
@[go_sem] theorem k_ok_54 : callOk Try.prog 54 = false := by kernel_rfl
@[go_sem] theorem k_ok_55 : callOk Try.prog 55 = false := by kernel_rfl
@[go_sem] theorem k_ok_56 : callOk Try.prog 56 = false := by kernel_rfl
@[go_sem] theorem k_ok_57 : callOk Try.prog 57 = false := by kernel_rfl
@[go_sem] theorem k_ok_58 : callOk Try.prog 58 = false := by kernel_rfl
@[go_sem] theorem k_ok_59 : callOk Try.prog 59 = false := by kernel_rfl
@[go_sem] theorem k_ok_60 : callOk Try.prog 60 = false := by kernel_rfl
@[go_sem] theorem k_ok_61 : callOk Try.prog 61 = false := by kernel_rfl
@[go_sem] theorem k_ok_62 : callOk Try.prog 62 = false := by kernel_rfl
@[go_sem] theorem k_ok_63 : callOk Try.prog 63 = false := by kernel_rfl
@[go_sem] theorem k_ok_64 : callOk Try.prog 64 = false := by kernel_rfl
@[go_sem] theorem k_ok_65 : callOk Try.prog 65 = false := by kernel_rfl
end Go.Proofs.Ytjabaenpkimmjaa

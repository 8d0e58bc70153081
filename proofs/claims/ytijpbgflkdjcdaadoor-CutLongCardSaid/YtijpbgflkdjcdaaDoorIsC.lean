/- errors.Is of a spot, and trammellaw00.Is, in the world. -/
import Derived.Test.YtijpbgflkdjcdaaDoorIsB
namespace Go.Proofs.YtijpbgflkdjcdaaDoor
set_option linter.unusedSimpArgs false
set_option linter.unusedVariables false
open Go.RowKit Go.Extern.Stop Go.Stop Go.Extern
theorem x_codeCmp : (Tryd.prog.info? 42).map (fun i => i.comparable) = some true := by kernel_rfl
set_option maxRecDepth 100000 in
set_option maxHeartbeats 4000000 in
theorem is_spot (p q : Nat) (e0 c : Int) (w : World) (hp : w.cell? ⟨p, q + 1, none⟩ = some (.iface 42 (.int .i64 e0))) :
    Calls Tryd.prog 25 #[.iface 51 (.pointer (some ⟨p, q, none⟩)), .iface 42 (.int .i64 c)] w fun e w' => e = .returned (.bool (e0 == c)) ∧ w' = w := by
  have hTo := @run_callFunc_extern Tryd.prog 37 _ Extern.ReflectliteType.typeOf Tryd.func37 (by kernel_rfl) (by kernel_rfl) (by kernel_rfl) (by kernel_rfl)
  have hCo := @run_callFunc_extern Tryd.prog 95 _ (Extern.ReflectliteType.method fun t => do Rtype.noPackHeld "Comparable" t; pure (.bool (← typeInfo t).comparable)) Tryd.func95 (by kernel_rfl) (by kernel_rfl) (by kernel_rfl) (by kernel_rfl)
  have e1 := x_typeOf
  have e2 := x_compM
  have e3 := x_comp
  have e4 := x_noIsS
  have e5 := x_hasUnwS
  have e6 := x_unwM
  have e7 := x_noIs
  have e8 := x_noUnw
  have e9 := x_noUnws
  have hty := run_eql_iface_types (P := Tryd.prog) 51 42 (.pointer (some ⟨p, q, none⟩)) (.int .i64 c) Tryd.underlying27 (by decide) w
  have heq := fun (a b : Int) (w : World) => Go.Lib.run_eql_iface_int w (k := .i64) a b Tryd.underlying27 x_codeCmp Tryd.underlying42
  by_cases h : e0 = c
  · subst h
    have hb : (e0 == e0) = true := by simp
    go_enter Tryd.func25, Tryd.ntmps25
    go_wp2
    refine wp_loop_rounds 2 ?_
    rw [rounds_succ]
    go_wp2
    rw [rounds_succ]
    go_wp2
    go_ret
    exact ⟨by rw [hb]; rfl, rfl⟩
  · have hb : (e0 == c) = false := by simpa using h
    go_enter Tryd.func25, Tryd.ntmps25
    go_wp2
    refine wp_loop_rounds 2 ?_
    rw [rounds_succ]
    go_wp2
    rw [rounds_succ]
    go_wp2
    go_ret
    exact ⟨by rw [hb]; rfl, rfl⟩
end Go.Proofs.YtijpbgflkdjcdaaDoor

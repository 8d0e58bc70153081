/- trammellaw00.Is, in the world. -/
import Derived.Test.YtijpbgflkdjcdaaDoorIsC
import Derived.Below
namespace Go.Proofs.YtijpbgflkdjcdaaDoor
set_option linter.unusedSimpArgs false
set_option linter.unusedVariables false
open Go.RowKit Go.Extern.Stop Go.Stop Go.Extern
theorem x_spotInfo : (Tryd.prog.info? 51).map (fun i => i.comparable) = some true := by kernel_rfl
theorem x_spotInfo2 : (Tryd.prog.info? 53).isSome = true := by kernel_rfl
theorem frz_new (w : World) (c : Array Value) (t : TypeId) : (w.alloc (.cells c t (0, 0))).frozen? ⟨w.heap.size, 0, none⟩ = false := by
  exact World.frozen?_alloc_new w c t 0
/-- errors.As of a spot, into a variable of its own. -/
theorem as_spotK (p q : Nat) (w : World) (hgl : w.cell? ⟨0, 0, none⟩ = some (rty 27)) :
    Calls Tryd.prog 24 #[.iface 51 (.pointer (some ⟨p, q, none⟩)), .iface 64 (.pointer (some ⟨w.heap.size, 0, none⟩))] (w.alloc (.cells #[.pointer none] 51 (0, 0))) fun e w' => e = .returned (.bool true) ∧ w'.cell? ⟨w.heap.size, 0, none⟩ = some (.pointer (some ⟨p, q, none⟩)) ∧ Below w.heap.size w w' :=
  (as_spot p q w.heap.size _ (World.cell?_alloc_new w #[.pointer none] _ 0) (frz_new w _ _) (old1 hgl _)).mono fun e w' ⟨he, o1, o2, o3, o4, hw⟩ => by
    subst hw
    refine ⟨he, World.cell?_setCell_same _ _ _ (old1 (old1 (old1 (old1 (World.cell?_alloc_new w #[.pointer none] 51 0) o1) o2) o3) o4), ?_⟩
    exact ((((((Below.refl _ w).alloc (Nat.le_refl _) _).alloc (by simp) _).alloc (by simp; omega) _).alloc (by simp; omega) _).alloc (by simp; omega) _).setCell (Nat.le_refl _) _
set_option maxRecDepth 100000 in
set_option maxHeartbeats 4000000 in
theorem isSpot_any (p q : Nat) (a0 e0 at0 c : Int) (w : World) (hp0 : w.cell? ⟨p, q, none⟩ = some (.int .i64 a0)) (hp1 : w.cell? ⟨p, q + 1, none⟩ = some (.iface 42 (.int .i64 e0))) (hgl : w.cell? ⟨0, 0, none⟩ = some (rty 27)) :
    Calls Tryd.prog 14 #[.iface 51 (.pointer (some ⟨p, q, none⟩)), .int .i64 at0, .int .i64 c] w fun e w' => e = .returned (.bool ((e0 == c) && (a0 == at0))) ∧ Below w.heap.size w w' := by
  obtain ⟨i, hi, hcmp⟩ := Option.map_eq_some_iff.1 x_spotInfo
  obtain ⟨j, hj⟩ := Option.isSome_iff_exists.1 x_spotInfo2
  have heq := fun w => run_eql_iface_ptr_same (P := Tryd.prog) w ⟨p, q, none⟩ Tryd.underlying27 Tryd.underlying51 hi hcmp hj
  have heqN : ∀ w, (binOp .neq 27 (.iface 51 (.pointer (some ⟨p, q, none⟩))) (.iface 51 (.pointer (some ⟨p, q, none⟩)))).run Tryd.prog w = .ok (.bool false) w := fun w => by
    simp only [binOp]
    simp [Op.equal, Op.maxDepth, run_equalIn_iface_ptr_same w 9998 ⟨p, q, none⟩ Tryd.underlying27 Tryd.underlying51 hi hcmp hj]
  have heq2 := fun (a b : Int) (w : World) => Go.Lib.run_eql_iface_int w (k := .i64) a b Tryd.underlying27 x_codeCmp Tryd.underlying42
  have hAs := as_spotK p q w hgl
  have hpl := World.block_lt_of_cell? w ⟨p, q, none⟩ hp0
  cases hb1 : (e0 == c) <;> cases hb2 : (a0 == at0)
  all_goals
    go_enter Tryd.func14, Tryd.ntmps14
    go_wp2_with (first | (go_at_call 24; refine hAs.mono ?_; rintro e W ⟨rfl, hg, hbel⟩; have hq0 := (hbel.cell (p := ⟨p, q, none⟩) hpl).trans hp0; have hq1 := (hbel.cell (p := ⟨p, q + 1, none⟩) hpl).trans hp1; have hIs := is_spot p q e0 c W hq1; rw [hb1] at hIs; clear hAs hp0 hp1 hgl) | (go_at_call 25; refine hIs.mono ?_; rintro e W2 ⟨rfl, rfl⟩))
    all_goals
      go_ret
      exact ⟨rfl, hbel⟩
/-- errors.As of a code, or of nothing, into a variable of its own. -/
theorem as_codeK (c : Int) (w : World) (hgl : w.cell? ⟨0, 0, none⟩ = some (rty 27)) :
    Calls Tryd.prog 24 #[.iface 42 (.int .i64 c), .iface 64 (.pointer (some ⟨w.heap.size, 0, none⟩))] (w.alloc (.cells #[.pointer none] 51 (0, 0))) fun e w' => e = .returned (.bool false) ∧ Below w.heap.size w w' :=
  (as_code c w.heap.size _ (old1 hgl _)).mono fun e w' ⟨he, o1, o2, o3, hw⟩ => by
    subst hw
    exact ⟨he, (((((Below.refl _ w).alloc (Nat.le_refl _) _).alloc (by simp) _).alloc (by simp; omega) _).alloc (by simp; omega) _)⟩
theorem as_nilK (w : World) : Calls Tryd.prog 24 #[.nilIface, .iface 64 (.pointer (some ⟨w.heap.size, 0, none⟩))] (w.alloc (.cells #[.pointer none] 51 (0, 0))) fun e w' => e = .returned (.bool false) ∧ Below w.heap.size w w' := by
  have hbel : Below w.heap.size w (w.alloc (.cells #[.pointer none] 51 (0, 0))) := (Below.refl _ w).alloc (Nat.le_refl _) _
  go_enter Tryd.func24, Tryd.ntmps24
  go_wp2
  go_ret
  exact ⟨rfl, hbel⟩
set_option maxRecDepth 100000 in
set_option maxHeartbeats 4000000 in
theorem isCode_any (a c at0 : Int) (w : World) (hgl : w.cell? ⟨0, 0, none⟩ = some (rty 27)) :
    Calls Tryd.prog 14 #[.iface 42 (.int .i64 a), .int .i64 at0, .int .i64 c] w fun e w' => e = .returned (.bool false) ∧ Below w.heap.size w w' := by
  have hAs := as_codeK a w hgl
  go_enter Tryd.func14, Tryd.ntmps14
  go_wp2_with (first | (go_at_call 24; refine hAs.mono ?_; rintro e W ⟨rfl, hbel⟩; clear hAs hgl) | fail)
  go_ret
  exact ⟨rfl, hbel⟩
set_option maxRecDepth 100000 in
set_option maxHeartbeats 4000000 in
theorem isNil_any (c at0 : Int) (w : World) : Calls Tryd.prog 14 #[.nilIface, .int .i64 at0, .int .i64 c] w fun e w' => e = .returned (.bool false) ∧ Below w.heap.size w w' := by
  have hAs := as_nilK w
  go_enter Tryd.func14, Tryd.ntmps14
  go_wp2_with (first | (go_at_call 24; refine hAs.mono ?_; rintro e W ⟨rfl, hbel⟩; clear hAs) | fail)
  go_ret
  exact ⟨rfl, hbel⟩
end Go.Proofs.YtijpbgflkdjcdaaDoor

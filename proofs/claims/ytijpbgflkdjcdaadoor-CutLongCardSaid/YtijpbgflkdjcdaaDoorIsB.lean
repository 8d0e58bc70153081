/- errors.As and errors.Is, in the world, of an error that is a code or a spot. -/
import Derived.Test.YtijpbgflkdjcdaaDoorIs
namespace Go.Proofs.YtijpbgflkdjcdaaDoor
set_option linter.unusedSimpArgs false
set_option linter.unusedVariables false
open Go.RowKit Go.Extern.Stop Go.Stop Go.Extern
theorem old1 {w : World} {b o : Nat} {v : Value} (h : w.cell? ⟨b, o, none⟩ = some v) (o1 : Obj) : (w.alloc o1).cell? ⟨b, o, none⟩ = some v := (World.cell?_alloc_lt w o1 ⟨b, o, none⟩ (World.block_lt_of_cell? w ⟨b, o, none⟩ h)).trans h
theorem frz1 {w : World} {b o : Nat} {v : Value} (h : w.cell? ⟨b, o, none⟩ = some v) {o1 : Obj} : (w.alloc o1).frozen? ⟨b, o, none⟩ = w.frozen? ⟨b, o, none⟩ := by
  have := World.block_lt_of_cell? w ⟨b, o, none⟩ h
  exact World.frozen?_of_block (by show (w.heap.push o1)[b]? = _; rw [Array.getElem?_push, if_neg (by simp only at this; omega)])
theorem x_noAs (v : Value) (xT : TypeId) (w : World) : (Instr.typeAssert (.iface 42 v) xT 97 true).run Tryd.prog w = .ok (.tuple #[.nilIface, .bool false]) w := run_typeAssert_lacksB Tryd.underlying97 (by kernel_rfl) (by kernel_rfl) v xT w
theorem x_noIs (v : Value) (xT : TypeId) (w : World) : (Instr.typeAssert (.iface 42 v) xT 105 true).run Tryd.prog w = .ok (.tuple #[.nilIface, .bool false]) w := run_typeAssert_lacksB Tryd.underlying105 (by kernel_rfl) (by kernel_rfl) v xT w
theorem x_noUnw (v : Value) (xT : TypeId) (w : World) : (Instr.typeAssert (.iface 42 v) xT 100 true).run Tryd.prog w = .ok (.tuple #[.nilIface, .bool false]) w := run_typeAssert_lacksB Tryd.underlying100 (by kernel_rfl) (by kernel_rfl) v xT w
theorem x_noUnws (v : Value) (xT : TypeId) (w : World) : (Instr.typeAssert (.iface 42 v) xT 102 true).run Tryd.prog w = .ok (.tuple #[.nilIface, .bool false]) w := run_typeAssert_lacksB Tryd.underlying102 (by kernel_rfl) (by kernel_rfl) v xT w
theorem x_noIsS (v : Value) (xT : TypeId) (w : World) : (Instr.typeAssert (.iface 51 v) xT 105 true).run Tryd.prog w = .ok (.tuple #[.nilIface, .bool false]) w := run_typeAssert_lacksB Tryd.underlying105 (by kernel_rfl) (by kernel_rfl) v xT w
theorem x_hasUnwS (v : Value) (xT : TypeId) (w : World) : (Instr.typeAssert (.iface 51 v) xT 100 true).run Tryd.prog w = .ok (.tuple #[.iface 51 v, .bool true]) w := run_typeAssert_hasB Tryd.underlying100 (by kernel_rfl) v xT w
theorem x_unwM (n : Nat) (v : Value) (w : World) : (Go.method (n + 1) 51 v "Unwrap").run Tryd.prog w = .ok (89, v) w := by kernel_rfl
set_option maxRecDepth 100000 in
set_option maxHeartbeats 4000000 in
theorem as_spot (p q g : Nat) (w : World) (hg : w.cell? ⟨g, 0, none⟩ = some (.pointer none)) (hfz : w.frozen? ⟨g, 0, none⟩ = false) (hgl : w.cell? ⟨0, 0, none⟩ = some (rty 27)) :
    Calls Tryd.prog 24 #[.iface 51 (.pointer (some ⟨p, q, none⟩)), .iface 64 (.pointer (some ⟨g, 0, none⟩))] w fun e w' => e = .returned (.bool true) ∧ ∃ o1 o2 o3 o4, w' = ((((w.alloc o1).alloc o2).alloc o3).alloc o4).setCell ⟨g, 0, none⟩ (.pointer (some ⟨p, q, none⟩)) := by
  have h33 := @run_callFunc_extern Tryd.prog 33 _ (fun args => Extern.ReflectliteValue.unpack (args.getD 0 (.tuple #[]))) Tryd.func33 (by kernel_rfl) (by kernel_rfl) (by kernel_rfl) (by kernel_rfl)
  have h34 := @run_callFunc_extern Tryd.prog 34 _ (Extern.ReflectliteValue.methodAny (Extern.ReflectliteValue.valueError "reflectlite.Value.Type" 0) (fun t _ _ _ => Extern.ReflectliteType.toType t)) Tryd.func34 (by kernel_rfl) (by kernel_rfl) (by kernel_rfl) (by kernel_rfl)
  have h62 := @run_callFunc_extern Tryd.prog 84 _ (Extern.ReflectliteType.abiMethod (fun t => do pure (.int .u8 (← Rtype.kind t)))) Tryd.func84 (by kernel_rfl) (by kernel_rfl) (by kernel_rfl) (by kernel_rfl)
  have h35 := @run_callFunc_extern Tryd.prog 35 _ (Extern.ReflectliteValue.method (Extern.ReflectliteValue.valueError "reflectlite.Value.IsNil" 0) Extern.ReflectliteValue.isNil) Tryd.func35 (by kernel_rfl) (by kernel_rfl) (by kernel_rfl) (by kernel_rfl)
  have h41 := @run_callFunc_extern Tryd.prog 44 _ (Extern.ReflectliteValue.method (Extern.ReflectliteValue.valueError "reflectlite.Value.Elem" 0) Extern.ReflectliteValue.elem) Tryd.func44 (by kernel_rfl) (by kernel_rfl) (by kernel_rfl) (by kernel_rfl)
  have h42 := @run_callFunc_extern Tryd.prog 45 _ Extern.ReflectliteValue.set Tryd.func45 (by kernel_rfl) (by kernel_rfl) (by kernel_rfl) (by kernel_rfl)
  have hEl := @run_callFunc_extern Tryd.prog 96 _ (Extern.ReflectliteType.method Extern.ReflectliteType.elem) Tryd.func96 (by kernel_rfl) (by kernel_rfl) (by kernel_rfl) (by kernel_rfl)
  have hIm := @run_callFunc_extern Tryd.prog 97 _ (Extern.ReflectliteType.relation "Implements" Extern.ReflectliteType.implements_) Tryd.func97 (by kernel_rfl) (by kernel_rfl) (by kernel_rfl) (by kernel_rfl)
  have hAs := @run_callFunc_extern Tryd.prog 94 _ (Extern.ReflectliteType.relation "AssignableTo" Extern.ReflectliteType.assignableTo) Tryd.func94 (by kernel_rfl) (by kernel_rfl) (by kernel_rfl) (by kernel_rfl)
  have hTo := @run_callFunc_extern Tryd.prog 37 _ Extern.ReflectliteType.typeOf Tryd.func37 (by kernel_rfl) (by kernel_rfl) (by kernel_rfl) (by kernel_rfl)
  have e1 := x_valueOf
  have e2 := x_valueOfS
  have e3 := x_type
  have e4 := x_kindM
  have e5 := x_elemM
  have e6 := x_implM
  have e7 := x_assM
  have e8 := x_kind1
  have e9 := x_kind2
  have e10 := x_telem
  have e11 := x_impl
  have e12 := x_assS
  have e13 := x_typeOf
  have e14 := x_isNil
  have g2 := fun o1 o2 => old1 (old1 hgl o1) o2
  have e15 := fun o2 o3 => x_elem w.heap.size g (((w.alloc (.cells #[.pointer (some ⟨g, 0, none⟩)] 64 (0, 0))).alloc o2).alloc o3) (old1 (old1 (World.cell?_alloc_new w #[.pointer (some ⟨g, 0, none⟩)] 64 0) o2) o3)
  have e16 := fun o1 o2 o3 => x_set g (w.heap.size + 1 + 1 + 1) p q (.pointer none) ((((w.alloc o1).alloc o2).alloc o3).alloc (.cells #[.pointer (some ⟨p, q, none⟩)] 51 (0, 0))) (by simpa using World.cell?_alloc_new (((w.alloc o1).alloc o2).alloc o3) #[.pointer (some ⟨p, q, none⟩)] 51 0) (old1 (old1 (old1 (old1 hg o1) o2) o3) _) (by
    rw [frz1 (old1 (old1 (old1 hg o1) o2) o3), frz1 (old1 (old1 hg o1) o2), frz1 (old1 hg o1), frz1 hg]; exact hfz)
  clear hgl
  go_enter Tryd.func24, Tryd.ntmps24
  go_wp2
  refine wp_loop_rounds 1 ?_
  rw [rounds_succ]
  go_wp2
  go_ret
  exact ⟨rfl, _, _, _, _, rfl⟩
set_option maxRecDepth 100000 in
set_option maxHeartbeats 4000000 in
theorem as_code (c : Int) (g : Nat) (w : World) (hgl : w.cell? ⟨0, 0, none⟩ = some (rty 27)) :
    Calls Tryd.prog 24 #[.iface 42 (.int .i64 c), .iface 64 (.pointer (some ⟨g, 0, none⟩))] w fun e w' => e = .returned (.bool false) ∧ ∃ o1 o2 o3, w' = ((w.alloc o1).alloc o2).alloc o3 := by
  have h33 := @run_callFunc_extern Tryd.prog 33 _ (fun args => Extern.ReflectliteValue.unpack (args.getD 0 (.tuple #[]))) Tryd.func33 (by kernel_rfl) (by kernel_rfl) (by kernel_rfl) (by kernel_rfl)
  have h34 := @run_callFunc_extern Tryd.prog 34 _ (Extern.ReflectliteValue.methodAny (Extern.ReflectliteValue.valueError "reflectlite.Value.Type" 0) (fun t _ _ _ => Extern.ReflectliteType.toType t)) Tryd.func34 (by kernel_rfl) (by kernel_rfl) (by kernel_rfl) (by kernel_rfl)
  have h62 := @run_callFunc_extern Tryd.prog 84 _ (Extern.ReflectliteType.abiMethod (fun t => do pure (.int .u8 (← Rtype.kind t)))) Tryd.func84 (by kernel_rfl) (by kernel_rfl) (by kernel_rfl) (by kernel_rfl)
  have h35 := @run_callFunc_extern Tryd.prog 35 _ (Extern.ReflectliteValue.method (Extern.ReflectliteValue.valueError "reflectlite.Value.IsNil" 0) Extern.ReflectliteValue.isNil) Tryd.func35 (by kernel_rfl) (by kernel_rfl) (by kernel_rfl) (by kernel_rfl)
  have h41 := @run_callFunc_extern Tryd.prog 44 _ (Extern.ReflectliteValue.method (Extern.ReflectliteValue.valueError "reflectlite.Value.Elem" 0) Extern.ReflectliteValue.elem) Tryd.func44 (by kernel_rfl) (by kernel_rfl) (by kernel_rfl) (by kernel_rfl)
  have h42 := @run_callFunc_extern Tryd.prog 45 _ Extern.ReflectliteValue.set Tryd.func45 (by kernel_rfl) (by kernel_rfl) (by kernel_rfl) (by kernel_rfl)
  have hEl := @run_callFunc_extern Tryd.prog 96 _ (Extern.ReflectliteType.method Extern.ReflectliteType.elem) Tryd.func96 (by kernel_rfl) (by kernel_rfl) (by kernel_rfl) (by kernel_rfl)
  have hIm := @run_callFunc_extern Tryd.prog 97 _ (Extern.ReflectliteType.relation "Implements" Extern.ReflectliteType.implements_) Tryd.func97 (by kernel_rfl) (by kernel_rfl) (by kernel_rfl) (by kernel_rfl)
  have hAs := @run_callFunc_extern Tryd.prog 94 _ (Extern.ReflectliteType.relation "AssignableTo" Extern.ReflectliteType.assignableTo) Tryd.func94 (by kernel_rfl) (by kernel_rfl) (by kernel_rfl) (by kernel_rfl)
  have hTo := @run_callFunc_extern Tryd.prog 37 _ Extern.ReflectliteType.typeOf Tryd.func37 (by kernel_rfl) (by kernel_rfl) (by kernel_rfl) (by kernel_rfl)
  have e1 := x_valueOf
  have e2 := x_valueOfS
  have e3 := x_type
  have e4 := x_kindM
  have e5 := x_elemM
  have e6 := x_implM
  have e7 := x_assM
  have e8 := x_kind1
  have e9 := x_kind2
  have e10 := x_telem
  have e11 := x_impl
  have e12 := x_assS
  have e13 := x_typeOf
  have e14 := x_isNil
  have g2 := fun o1 o2 => old1 (old1 hgl o1) o2
  have e15 := x_assC
  have e16 := x_noAs
  have e17 := x_noUnw
  have e18 := x_noUnws
  clear hgl
  go_enter Tryd.func24, Tryd.ntmps24
  go_wp2
  refine wp_loop_rounds 1 ?_
  rw [rounds_succ]
  go_wp2
  go_ret
  exact ⟨rfl, _, _, _, rfl⟩
end Go.Proofs.YtijpbgflkdjcdaaDoor

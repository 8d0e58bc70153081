/- trammellaw00.Is, in the world: what it says of an error that is nil, a code, a spot. errors.As and errors.Is, in the world, of an error that is a code or a spot. errors.Is of a spot, and trammellaw00.Is, in the world. trammellaw00.Is, in the world. -/
import Derived.Test.YtpkcgdikbjaoaaaGreatDoorChecked
import Derived.WalkKit
import Derived.LaidEql
import Derived.Lib.IfaceEq
import Derived.Stop.Asserts
import Derived.RowKitTokens
import Derived.Below
namespace Go.Proofs.YtpkcgdikbjaoaaaGreatDoor
set_option linter.unusedSimpArgs false
set_option linter.unusedVariables false
open Go.RowKit Go.Extern.Stop Go.Stop Go.Extern
abbrev hnd (t : Nat) : Value := .pointer (some ⟨4, t, none⟩)
abbrev rty (t : Nat) : Value := .iface 121 (.agg #[hnd t])
theorem nX (v : Value) (w : World) : (Extern.ReflectliteValue.unpack (.iface 76 v)).run Tryz.prog w = .ok (.agg #[hnd 76, .pointer (some ⟨w.heap.size, 0, none⟩), .int .u64 150]) (w.alloc (.cells v.cells 76 (0, 0))) := by kernel_rfl
theorem m7 (v : Value) (w : World) : (Extern.ReflectliteValue.unpack (.iface 74 v)).run Tryz.prog w = .ok (.agg #[hnd 74, .pointer (some ⟨w.heap.size, 0, none⟩), .int .u64 150]) (w.alloc (.cells v.cells 74 (0, 0))) := by kernel_rfl
theorem uq (g : Nat) (w : World) : (Extern.ReflectliteValue.methodAny (Extern.ReflectliteValue.valueError "reflectlite.Value.Type" 0) (fun t _ _ _ => Extern.ReflectliteType.toType t) #[.agg #[hnd 76, .pointer (some ⟨g, 0, none⟩), .int .u64 150]]).run Tryz.prog w = .ok (rty 76) w := by kernel_rfl
theorem gY {g : Nat} {v : Value} {w : World} {t : TypeId} (hc : w.cell? ⟨g, 0, none⟩ = some v) (hagg : (isAgg t).run Tryz.prog w = .ok false w) : (loadVar t ⟨g, 0, none⟩).run Tryz.prog w = .ok v w := by
  simp [loadVar, hagg, hc]
theorem sr (g x : Nat) (w : World) (hc : w.cell? ⟨g, 0, none⟩ = some (.pointer (some ⟨x, 0, none⟩))) :
    (Extern.ReflectliteValue.method (Extern.ReflectliteValue.valueError "reflectlite.Value.IsNil" 0) Extern.ReflectliteValue.isNil #[.agg #[hnd 76, .pointer (some ⟨g, 0, none⟩), .int .u64 150]]).run Tryz.prog w = .ok (.bool false) w := by
  have h1 : (Extern.ReflectliteValue.parts (.agg #[hnd 76, .pointer (some ⟨g, 0, none⟩), .int .u64 150])).run Tryz.prog w = .ok (some (76, ⟨g, 0, none⟩, 150)) w := by kernel_rfl
  have h2 := gY (t := 76) hc (by kernel_rfl)
  have e : Extern.ReflectliteValue.method (Extern.ReflectliteValue.valueError "reflectlite.Value.IsNil" 0) Extern.ReflectliteValue.isNil #[.agg #[hnd 76, .pointer (some ⟨g, 0, none⟩), .int .u64 150]] =
    (Extern.ReflectliteValue.parts (.agg #[hnd 76, .pointer (some ⟨g, 0, none⟩), .int .u64 150]) >>= fun o => match o with | none => Extern.ReflectliteValue.valueError "reflectlite.Value.IsNil" 0 | some (t, a, fl) => Extern.ReflectliteValue.isNil t a fl (fl % 32)) := rfl
  rw [e, Sem.run_bind, h1]
  simp [Extern.ReflectliteValue.isNil, Sem.run_bind, h2, Result.andThen]
theorem y6 (g x : Nat) (w : World) (hc : w.cell? ⟨g, 0, none⟩ = some (.pointer (some ⟨x, 0, none⟩))) :
    (Extern.ReflectliteValue.method (Extern.ReflectliteValue.valueError "reflectlite.Value.Elem" 0) Extern.ReflectliteValue.elem #[.agg #[hnd 76, .pointer (some ⟨g, 0, none⟩), .int .u64 150]]).run Tryz.prog w = .ok (.agg #[hnd 74, .pointer (some ⟨x, 0, none⟩), .int .u64 406]) w := by
  have h1 : (Extern.ReflectliteValue.parts (.agg #[hnd 76, .pointer (some ⟨g, 0, none⟩), .int .u64 150])).run Tryz.prog w = .ok (some (76, ⟨g, 0, none⟩, 150)) w := by kernel_rfl
  have h2 := gY (t := 76) hc (by kernel_rfl)
  have h3 : (Rtype.elem? 76).run Tryz.prog w = .ok (some 74) w := by kernel_rfl
  have h4 : (Extern.ReflectliteValue.mk 74 ⟨x, 0, none⟩ Extern.ReflectliteValue.flagAddr).run Tryz.prog w = .ok (.agg #[hnd 74, .pointer (some ⟨x, 0, none⟩), .int .u64 406]) w := by kernel_rfl
  have e : Extern.ReflectliteValue.method (Extern.ReflectliteValue.valueError "reflectlite.Value.Elem" 0) Extern.ReflectliteValue.elem #[.agg #[hnd 76, .pointer (some ⟨g, 0, none⟩), .int .u64 150]] =
    (Extern.ReflectliteValue.parts (.agg #[hnd 76, .pointer (some ⟨g, 0, none⟩), .int .u64 150]) >>= fun o => match o with | none => Extern.ReflectliteValue.valueError "reflectlite.Value.Elem" 0 | some (t, a, fl) => Extern.ReflectliteValue.elem t a fl (fl % 32)) := rfl
  rw [e, Sem.run_bind, h1]
  simp [Extern.ReflectliteValue.elem, Sem.run_bind, h2, h3, h4, Result.andThen]
theorem z8 (x b p q : Nat) (u : Value) (w : World) (hc : w.cell? ⟨b, 0, none⟩ = some (.pointer (some ⟨p, q, none⟩))) (hx : w.cell? ⟨x, 0, none⟩ = some u) (hfz : w.frozen? ⟨x, 0, none⟩ = false) :
    (Extern.ReflectliteValue.set #[.agg #[hnd 74, .pointer (some ⟨x, 0, none⟩), .int .u64 406], .agg #[hnd 74, .pointer (some ⟨b, 0, none⟩), .int .u64 150]]).run Tryz.prog w = .ok (.tuple #[]) (w.setCell ⟨x, 0, none⟩ (.pointer (some ⟨p, q, none⟩))) := by
  have h1 : (Extern.ReflectliteValue.parts (.agg #[hnd 74, .pointer (some ⟨x, 0, none⟩), .int .u64 406])).run Tryz.prog w = .ok (some (74, ⟨x, 0, none⟩, 406)) w := by kernel_rfl
  have h1' : (Extern.ReflectliteValue.parts (.agg #[hnd 74, .pointer (some ⟨b, 0, none⟩), .int .u64 150])).run Tryz.prog w = .ok (some (74, ⟨b, 0, none⟩, 150)) w := by kernel_rfl
  have h2 := gY (t := 74) hc (by kernel_rfl)
  have h3 : (Rtype.directlyAssignable 74 74).run Tryz.prog w = .ok true w := by kernel_rfl
  have h4 : (storeVar 74 ⟨x, 0, none⟩ (.pointer (some ⟨p, q, none⟩))).run Tryz.prog w = .ok () (w.setCell ⟨x, 0, none⟩ (.pointer (some ⟨p, q, none⟩))) := by
    have hagg : (isAgg 74).run Tryz.prog w = .ok false w := by kernel_rfl
    simp [storeVar, hagg, storeCells, Value.cells, Addr.add]
    rw [run_store _ _ _ _ _ rfl, hx]
    simp [hfz]
  show ((Extern.ReflectliteValue.parts (.agg #[hnd 74, .pointer (some ⟨x, 0, none⟩), .int .u64 406]) >>= fun o1 => Extern.ReflectliteValue.parts (.agg #[hnd 74, .pointer (some ⟨b, 0, none⟩), .int .u64 150]) >>= fun o2 => _) : Sem Value).run _ w = _
  rw [Sem.run_bind, h1]
  simp only [Result.andThen]
  rw [Sem.run_bind, h1']
  simp [Sem.run_bind, h2, h3, h4, Result.andThen, Extern.ReflectliteValue.flagAddr]
theorem tb (n : Nat) (v : Value) (w : World) : (Go.method (n + 1) 121 (.agg #[v]) "Kind").run Tryz.prog w = .ok (119, v) w := by kernel_rfl
theorem tt (n : Nat) (v : Value) (w : World) : (Go.method (n + 1) 121 (.agg #[v]) "Elem").run Tryz.prog w = .ok (131, .agg #[v]) w := by kernel_rfl
theorem sF (n : Nat) (v : Value) (w : World) : (Go.method (n + 1) 121 (.agg #[v]) "Implements").run Tryz.prog w = .ok (132, .agg #[v]) w := by kernel_rfl
theorem uO (n : Nat) (v : Value) (w : World) : (Go.method (n + 1) 121 (.agg #[v]) "AssignableTo").run Tryz.prog w = .ok (129, .agg #[v]) w := by kernel_rfl
theorem wW (n : Nat) (v : Value) (w : World) : (Go.method (n + 1) 121 (.agg #[v]) "Comparable").run Tryz.prog w = .ok (130, .agg #[v]) w := by kernel_rfl
theorem se (w : World) : (Extern.ReflectliteType.abiMethod (fun t => (fun a : Nat => Value.int .u8 (a : Int)) <$> Rtype.kind t) #[hnd 76]).run Tryz.prog w = .ok (.int .u8 22) w := by kernel_rfl
theorem sX (w : World) : (Extern.ReflectliteType.abiMethod (fun t => (fun a : Nat => Value.int .u8 (a : Int)) <$> Rtype.kind t) #[hnd 74]).run Tryz.prog w = .ok (.int .u8 22) w := by kernel_rfl
theorem tw (w : World) : (Extern.ReflectliteType.method Extern.ReflectliteType.elem #[.agg #[hnd 76]]).run Tryz.prog w = .ok (rty 74) w := by kernel_rfl
theorem wj (w : World) : (Extern.ReflectliteType.relation "Implements" Extern.ReflectliteType.implements_ #[.agg #[hnd 74], rty 27]).run Tryz.prog w = .ok (.bool true) w := by kernel_rfl
theorem u2 (w : World) : (Extern.ReflectliteType.relation "AssignableTo" Extern.ReflectliteType.assignableTo #[.agg #[hnd 74], rty 74]).run Tryz.prog w = .ok (.bool true) w := by kernel_rfl
theorem zg (w : World) : (Extern.ReflectliteType.relation "AssignableTo" Extern.ReflectliteType.assignableTo #[.agg #[hnd 52], rty 74]).run Tryz.prog w = .ok (.bool false) w := by kernel_rfl
theorem mi (t : TypeId) (v : Value) (w : World) : (Extern.ReflectliteType.typeOf #[.iface t v]).run Tryz.prog w = .ok (rty t) w := by kernel_rfl
theorem zq (w : World) : (Extern.ReflectliteType.method (fun t => do Rtype.noPackHeld "Comparable" t; (fun a => Value.bool a.comparable) <$> typeInfo t) #[.agg #[hnd 52]]).run Tryz.prog w = .ok (.bool true) w := by kernel_rfl
end Go.Proofs.YtpkcgdikbjaoaaaGreatDoor
namespace Go.Proofs.YtpkcgdikbjaoaaaGreatDoor
set_option linter.unusedSimpArgs false
set_option linter.unusedVariables false
open Go.RowKit Go.Extern.Stop Go.Stop Go.Extern
theorem gI {w : World} {b o : Nat} {v : Value} (h : w.cell? ⟨b, o, none⟩ = some v) (o1 : Obj) : (w.alloc o1).cell? ⟨b, o, none⟩ = some v := (World.cell?_alloc_lt w o1 ⟨b, o, none⟩ (World.block_lt_of_cell? w ⟨b, o, none⟩ h)).trans h
theorem yh {w : World} {b o : Nat} {v : Value} (h : w.cell? ⟨b, o, none⟩ = some v) {o1 : Obj} : (w.alloc o1).frozen? ⟨b, o, none⟩ = w.frozen? ⟨b, o, none⟩ := by
  have := World.block_lt_of_cell? w ⟨b, o, none⟩ h
  exact World.frozen?_of_block (by show (w.heap.push o1)[b]? = _; rw [Array.getElem?_push, if_neg (by simp only at this; omega)])
theorem yT (v : Value) (xT : TypeId) (w : World) : (Instr.typeAssert (.iface 52 v) xT 125 true).run Tryz.prog w = .ok (.tuple #[.nilIface, .bool false]) w := run_typeAssert_lacksB Tryz.underlying125 (by kernel_rfl) (by kernel_rfl) v xT w
theorem yO (v : Value) (xT : TypeId) (w : World) : (Instr.typeAssert (.iface 52 v) xT 133 true).run Tryz.prog w = .ok (.tuple #[.nilIface, .bool false]) w := run_typeAssert_lacksB Tryz.underlying133 (by kernel_rfl) (by kernel_rfl) v xT w
theorem tv (v : Value) (xT : TypeId) (w : World) : (Instr.typeAssert (.iface 52 v) xT 128 true).run Tryz.prog w = .ok (.tuple #[.nilIface, .bool false]) w := run_typeAssert_lacksB Tryz.underlying128 (by kernel_rfl) (by kernel_rfl) v xT w
theorem pY (v : Value) (xT : TypeId) (w : World) : (Instr.typeAssert (.iface 52 v) xT 130 true).run Tryz.prog w = .ok (.tuple #[.nilIface, .bool false]) w := run_typeAssert_lacksB Tryz.underlying130 (by kernel_rfl) (by kernel_rfl) v xT w
theorem xC (v : Value) (xT : TypeId) (w : World) : (Instr.typeAssert (.iface 74 v) xT 133 true).run Tryz.prog w = .ok (.tuple #[.nilIface, .bool false]) w := run_typeAssert_lacksB Tryz.underlying133 (by kernel_rfl) (by kernel_rfl) v xT w
theorem t3 (v : Value) (xT : TypeId) (w : World) : (Instr.typeAssert (.iface 74 v) xT 128 true).run Tryz.prog w = .ok (.tuple #[.iface 74 v, .bool true]) w := run_typeAssert_hasB Tryz.underlying128 (by kernel_rfl) v xT w
theorem yI (n : Nat) (v : Value) (w : World) : (Go.method (n + 1) 74 v "Unwrap").run Tryz.prog w = .ok (124, v) w := by kernel_rfl
set_option maxRecDepth 100000 in
set_option maxHeartbeats 4000000 in
theorem xF (p q g : Nat) (w : World) (hg : w.cell? ⟨g, 0, none⟩ = some (.pointer none)) (hfz : w.frozen? ⟨g, 0, none⟩ = false) (hgl : w.cell? ⟨0, 0, none⟩ = some (rty 27)) :
    Calls Tryz.prog 23 #[.iface 74 (.pointer (some ⟨p, q, none⟩)), .iface 76 (.pointer (some ⟨g, 0, none⟩))] w fun e w' => e = .returned (.bool true) ∧ ∃ o1 o2 o3 o4, w' = ((((w.alloc o1).alloc o2).alloc o3).alloc o4).setCell ⟨g, 0, none⟩ (.pointer (some ⟨p, q, none⟩)) := by
  have h33 := @run_callFunc_extern Tryz.prog 49 _ (fun args => Extern.ReflectliteValue.unpack (args.getD 0 (.tuple #[]))) Tryz.func49 (by kernel_rfl) (by kernel_rfl) (by kernel_rfl) (by kernel_rfl)
  have h34 := @run_callFunc_extern Tryz.prog 50 _ (Extern.ReflectliteValue.methodAny (Extern.ReflectliteValue.valueError "reflectlite.Value.Type" 0) (fun t _ _ _ => Extern.ReflectliteType.toType t)) Tryz.func50 (by kernel_rfl) (by kernel_rfl) (by kernel_rfl) (by kernel_rfl)
  have h62 := @run_callFunc_extern Tryz.prog 119 _ (Extern.ReflectliteType.abiMethod (fun t => do pure (.int .u8 (← Rtype.kind t)))) Tryz.func119 (by kernel_rfl) (by kernel_rfl) (by kernel_rfl) (by kernel_rfl)
  have h35 := @run_callFunc_extern Tryz.prog 51 _ (Extern.ReflectliteValue.method (Extern.ReflectliteValue.valueError "reflectlite.Value.IsNil" 0) Extern.ReflectliteValue.isNil) Tryz.func51 (by kernel_rfl) (by kernel_rfl) (by kernel_rfl) (by kernel_rfl)
  have h41 := @run_callFunc_extern Tryz.prog 74 _ (Extern.ReflectliteValue.method (Extern.ReflectliteValue.valueError "reflectlite.Value.Elem" 0) Extern.ReflectliteValue.elem) Tryz.func74 (by kernel_rfl) (by kernel_rfl) (by kernel_rfl) (by kernel_rfl)
  have h42 := @run_callFunc_extern Tryz.prog 75 _ Extern.ReflectliteValue.set Tryz.func75 (by kernel_rfl) (by kernel_rfl) (by kernel_rfl) (by kernel_rfl)
  have hEl := @run_callFunc_extern Tryz.prog 131 _ (Extern.ReflectliteType.method Extern.ReflectliteType.elem) Tryz.func131 (by kernel_rfl) (by kernel_rfl) (by kernel_rfl) (by kernel_rfl)
  have hIm := @run_callFunc_extern Tryz.prog 132 _ (Extern.ReflectliteType.relation "Implements" Extern.ReflectliteType.implements_) Tryz.func132 (by kernel_rfl) (by kernel_rfl) (by kernel_rfl) (by kernel_rfl)
  have hAs := @run_callFunc_extern Tryz.prog 129 _ (Extern.ReflectliteType.relation "AssignableTo" Extern.ReflectliteType.assignableTo) Tryz.func129 (by kernel_rfl) (by kernel_rfl) (by kernel_rfl) (by kernel_rfl)
  have hTo := @run_callFunc_extern Tryz.prog 53 _ Extern.ReflectliteType.typeOf Tryz.func53 (by kernel_rfl) (by kernel_rfl) (by kernel_rfl) (by kernel_rfl)
  have e1 := nX
  have e2 := m7
  have e3 := uq
  have e4 := tb
  have e5 := tt
  have e6 := sF
  have e7 := uO
  have e8 := se
  have e9 := sX
  have e10 := tw
  have e11 := wj
  have e12 := u2
  have e13 := mi
  have e14 := sr
  have g2 := fun o1 o2 => gI (gI hgl o1) o2
  have e15 := fun o2 o3 => y6 w.heap.size g (((w.alloc (.cells #[.pointer (some ⟨g, 0, none⟩)] 76 (0, 0))).alloc o2).alloc o3) (gI (gI (World.cell?_alloc_new w #[.pointer (some ⟨g, 0, none⟩)] 76 0) o2) o3)
  have e16 := fun o1 o2 o3 => z8 g (w.heap.size + 1 + 1 + 1) p q (.pointer none) ((((w.alloc o1).alloc o2).alloc o3).alloc (.cells #[.pointer (some ⟨p, q, none⟩)] 74 (0, 0))) (by simpa using World.cell?_alloc_new (((w.alloc o1).alloc o2).alloc o3) #[.pointer (some ⟨p, q, none⟩)] 74 0) (gI (gI (gI (gI hg o1) o2) o3) _) (by
    rw [yh (gI (gI (gI hg o1) o2) o3), yh (gI (gI hg o1) o2), yh (gI hg o1), yh hg]; exact hfz)
  clear hgl
  go_enter Tryz.func23, Tryz.ntmps23
  go_wp2
  refine wp_loop_rounds 1 ?_
  rw [rounds_succ]
  go_wp2
  go_ret
  exact ⟨rfl, _, _, _, _, rfl⟩
set_option maxRecDepth 100000 in
set_option maxHeartbeats 4000000 in
theorem xa (c : Int) (g : Nat) (w : World) (hgl : w.cell? ⟨0, 0, none⟩ = some (rty 27)) :
    Calls Tryz.prog 23 #[.iface 52 (.int .i64 c), .iface 76 (.pointer (some ⟨g, 0, none⟩))] w fun e w' => e = .returned (.bool false) ∧ ∃ o1 o2 o3, w' = ((w.alloc o1).alloc o2).alloc o3 := by
  have h33 := @run_callFunc_extern Tryz.prog 49 _ (fun args => Extern.ReflectliteValue.unpack (args.getD 0 (.tuple #[]))) Tryz.func49 (by kernel_rfl) (by kernel_rfl) (by kernel_rfl) (by kernel_rfl)
  have h34 := @run_callFunc_extern Tryz.prog 50 _ (Extern.ReflectliteValue.methodAny (Extern.ReflectliteValue.valueError "reflectlite.Value.Type" 0) (fun t _ _ _ => Extern.ReflectliteType.toType t)) Tryz.func50 (by kernel_rfl) (by kernel_rfl) (by kernel_rfl) (by kernel_rfl)
  have h62 := @run_callFunc_extern Tryz.prog 119 _ (Extern.ReflectliteType.abiMethod (fun t => do pure (.int .u8 (← Rtype.kind t)))) Tryz.func119 (by kernel_rfl) (by kernel_rfl) (by kernel_rfl) (by kernel_rfl)
  have h35 := @run_callFunc_extern Tryz.prog 51 _ (Extern.ReflectliteValue.method (Extern.ReflectliteValue.valueError "reflectlite.Value.IsNil" 0) Extern.ReflectliteValue.isNil) Tryz.func51 (by kernel_rfl) (by kernel_rfl) (by kernel_rfl) (by kernel_rfl)
  have h41 := @run_callFunc_extern Tryz.prog 74 _ (Extern.ReflectliteValue.method (Extern.ReflectliteValue.valueError "reflectlite.Value.Elem" 0) Extern.ReflectliteValue.elem) Tryz.func74 (by kernel_rfl) (by kernel_rfl) (by kernel_rfl) (by kernel_rfl)
  have h42 := @run_callFunc_extern Tryz.prog 75 _ Extern.ReflectliteValue.set Tryz.func75 (by kernel_rfl) (by kernel_rfl) (by kernel_rfl) (by kernel_rfl)
  have hEl := @run_callFunc_extern Tryz.prog 131 _ (Extern.ReflectliteType.method Extern.ReflectliteType.elem) Tryz.func131 (by kernel_rfl) (by kernel_rfl) (by kernel_rfl) (by kernel_rfl)
  have hIm := @run_callFunc_extern Tryz.prog 132 _ (Extern.ReflectliteType.relation "Implements" Extern.ReflectliteType.implements_) Tryz.func132 (by kernel_rfl) (by kernel_rfl) (by kernel_rfl) (by kernel_rfl)
  have hAs := @run_callFunc_extern Tryz.prog 129 _ (Extern.ReflectliteType.relation "AssignableTo" Extern.ReflectliteType.assignableTo) Tryz.func129 (by kernel_rfl) (by kernel_rfl) (by kernel_rfl) (by kernel_rfl)
  have hTo := @run_callFunc_extern Tryz.prog 53 _ Extern.ReflectliteType.typeOf Tryz.func53 (by kernel_rfl) (by kernel_rfl) (by kernel_rfl) (by kernel_rfl)
  have e1 := nX
  have e2 := m7
  have e3 := uq
  have e4 := tb
  have e5 := tt
  have e6 := sF
  have e7 := uO
  have e8 := se
  have e9 := sX
  have e10 := tw
  have e11 := wj
  have e12 := u2
  have e13 := mi
  have e14 := sr
  have g2 := fun o1 o2 => gI (gI hgl o1) o2
  have e15 := zg
  have e16 := yT
  have e17 := tv
  have e18 := pY
  clear hgl
  go_enter Tryz.func23, Tryz.ntmps23
  go_wp2
  refine wp_loop_rounds 1 ?_
  rw [rounds_succ]
  go_wp2
  go_ret
  exact ⟨rfl, _, _, _, rfl⟩
end Go.Proofs.YtpkcgdikbjaoaaaGreatDoor
namespace Go.Proofs.YtpkcgdikbjaoaaaGreatDoor
set_option linter.unusedSimpArgs false
set_option linter.unusedVariables false
open Go.RowKit Go.Extern.Stop Go.Stop Go.Extern
theorem nr : (Tryz.prog.info? 52).map (fun i => i.comparable) = some true := by kernel_rfl
set_option maxRecDepth 100000 in
set_option maxHeartbeats 4000000 in
theorem wF (p q : Nat) (e0 c : Int) (w : World) (hp : w.cell? ⟨p, q + 1, none⟩ = some (.iface 52 (.int .i64 e0))) :
    Calls Tryz.prog 24 #[.iface 74 (.pointer (some ⟨p, q, none⟩)), .iface 52 (.int .i64 c)] w fun e w' => e = .returned (.bool (e0 == c)) ∧ w' = w := by
  have hTo := @run_callFunc_extern Tryz.prog 53 _ Extern.ReflectliteType.typeOf Tryz.func53 (by kernel_rfl) (by kernel_rfl) (by kernel_rfl) (by kernel_rfl)
  have hCo := @run_callFunc_extern Tryz.prog 130 _ (Extern.ReflectliteType.method fun t => do Rtype.noPackHeld "Comparable" t; pure (.bool (← typeInfo t).comparable)) Tryz.func130 (by kernel_rfl) (by kernel_rfl) (by kernel_rfl) (by kernel_rfl)
  have e1 := mi
  have e2 := wW
  have e3 := zq
  have e4 := xC
  have e5 := t3
  have e6 := yI
  have e7 := yO
  have e8 := tv
  have e9 := pY
  have hty := run_eql_iface_types (P := Tryz.prog) 74 52 (.pointer (some ⟨p, q, none⟩)) (.int .i64 c) Tryz.underlying27 (by decide) w
  have heq := fun (a b : Int) (w : World) => Go.Lib.run_eql_iface_int w (k := .i64) a b Tryz.underlying27 nr Tryz.underlying52
  by_cases h : e0 = c
  · subst h
    have hb : (e0 == e0) = true := by simp
    go_enter Tryz.func24, Tryz.ntmps24
    go_wp2
    refine wp_loop_rounds 2 ?_
    rw [rounds_succ]
    go_wp2
    rw [rounds_succ]
    go_wp2
    go_ret
    exact ⟨by rw [hb]; rfl, rfl⟩
  · have hb : (e0 == c) = false := by simpa using h
    go_enter Tryz.func24, Tryz.ntmps24
    go_wp2
    refine wp_loop_rounds 2 ?_
    rw [rounds_succ]
    go_wp2
    rw [rounds_succ]
    go_wp2
    go_ret
    exact ⟨by rw [hb]; rfl, rfl⟩
end Go.Proofs.YtpkcgdikbjaoaaaGreatDoor
namespace Go.Proofs.YtpkcgdikbjaoaaaGreatDoor
set_option linter.unusedSimpArgs false
set_option linter.unusedVariables false
open Go.RowKit Go.Extern.Stop Go.Stop Go.Extern
theorem rK : (Tryz.prog.info? 74).map (fun i => i.comparable) = some true := by kernel_rfl
theorem qZ : (Tryz.prog.info? 79).isSome = true := by kernel_rfl
theorem xd (w : World) (c : Array Value) (t : TypeId) : (w.alloc (.cells c t (0, 0))).frozen? ⟨w.heap.size, 0, none⟩ = false := by
  exact World.frozen?_alloc_new w c t 0
theorem vt (p q : Nat) (w : World) (hgl : w.cell? ⟨0, 0, none⟩ = some (rty 27)) :
    Calls Tryz.prog 23 #[.iface 74 (.pointer (some ⟨p, q, none⟩)), .iface 76 (.pointer (some ⟨w.heap.size, 0, none⟩))] (w.alloc (.cells #[.pointer none] 74 (0, 0))) fun e w' => e = .returned (.bool true) ∧ w'.cell? ⟨w.heap.size, 0, none⟩ = some (.pointer (some ⟨p, q, none⟩)) ∧ Below w.heap.size w w' :=
  (xF p q w.heap.size _ (World.cell?_alloc_new w #[.pointer none] _ 0) (xd w _ _) (gI hgl _)).mono fun e w' ⟨he, o1, o2, o3, o4, hw⟩ => by
    subst hw
    refine ⟨he, World.cell?_setCell_same _ _ _ (gI (gI (gI (gI (World.cell?_alloc_new w #[.pointer none] 74 0) o1) o2) o3) o4), ?_⟩
    exact ((((((Below.refl _ w).alloc (Nat.le_refl _) _).alloc (by simp) _).alloc (by simp; omega) _).alloc (by simp; omega) _).alloc (by simp; omega) _).setCell (Nat.le_refl _) _
set_option maxRecDepth 100000 in
set_option maxHeartbeats 4000000 in
theorem rm (p q : Nat) (a0 e0 at0 c : Int) (w : World) (hp0 : w.cell? ⟨p, q, none⟩ = some (.int .i64 a0)) (hp1 : w.cell? ⟨p, q + 1, none⟩ = some (.iface 52 (.int .i64 e0))) (hgl : w.cell? ⟨0, 0, none⟩ = some (rty 27)) :
    Calls Tryz.prog 10 #[.iface 74 (.pointer (some ⟨p, q, none⟩)), .int .i64 at0, .int .i64 c] w fun e w' => e = .returned (.bool ((e0 == c) && (a0 == at0))) ∧ Below w.heap.size w w' := by
  obtain ⟨i, hi, hcmp⟩ := Option.map_eq_some_iff.1 rK
  obtain ⟨j, hj⟩ := Option.isSome_iff_exists.1 qZ
  have heq := fun w => run_eql_iface_ptr_same (P := Tryz.prog) w ⟨p, q, none⟩ Tryz.underlying27 Tryz.underlying74 hi hcmp hj
  have heqN : ∀ w, (binOp .neq 27 (.iface 74 (.pointer (some ⟨p, q, none⟩))) (.iface 74 (.pointer (some ⟨p, q, none⟩)))).run Tryz.prog w = .ok (.bool false) w := fun w => by
    simp only [binOp]
    simp [Op.equal, Op.maxDepth, run_equalIn_iface_ptr_same w 9998 ⟨p, q, none⟩ Tryz.underlying27 Tryz.underlying74 hi hcmp hj]
  have heq2 := fun (a b : Int) (w : World) => Go.Lib.run_eql_iface_int w (k := .i64) a b Tryz.underlying27 nr Tryz.underlying52
  have hAs := vt p q w hgl
  have hpl := World.block_lt_of_cell? w ⟨p, q, none⟩ hp0
  cases hb1 : (e0 == c) <;> cases hb2 : (a0 == at0)
  all_goals
    go_enter Tryz.func10, Tryz.ntmps10
    go_wp2_with (first | (go_at_call 23; refine hAs.mono ?_; rintro e W ⟨rfl, hg, hbel⟩; have hq0 := (hbel.cell (p := ⟨p, q, none⟩) hpl).trans hp0; have hq1 := (hbel.cell (p := ⟨p, q + 1, none⟩) hpl).trans hp1; have hIs := wF p q e0 c W hq1; rw [hb1] at hIs; clear hAs hp0 hp1 hgl) | (go_at_call 24; refine hIs.mono ?_; rintro e W2 ⟨rfl, rfl⟩))
    all_goals
      go_ret
      exact ⟨rfl, hbel⟩
theorem uV (c : Int) (w : World) (hgl : w.cell? ⟨0, 0, none⟩ = some (rty 27)) :
    Calls Tryz.prog 23 #[.iface 52 (.int .i64 c), .iface 76 (.pointer (some ⟨w.heap.size, 0, none⟩))] (w.alloc (.cells #[.pointer none] 74 (0, 0))) fun e w' => e = .returned (.bool false) ∧ Below w.heap.size w w' :=
  (xa c w.heap.size _ (gI hgl _)).mono fun e w' ⟨he, o1, o2, o3, hw⟩ => by
    subst hw
    exact ⟨he, (((((Below.refl _ w).alloc (Nat.le_refl _) _).alloc (by simp) _).alloc (by simp; omega) _).alloc (by simp; omega) _)⟩
theorem yd (w : World) : Calls Tryz.prog 23 #[.nilIface, .iface 76 (.pointer (some ⟨w.heap.size, 0, none⟩))] (w.alloc (.cells #[.pointer none] 74 (0, 0))) fun e w' => e = .returned (.bool false) ∧ Below w.heap.size w w' := by
  have hbel : Below w.heap.size w (w.alloc (.cells #[.pointer none] 74 (0, 0))) := (Below.refl _ w).alloc (Nat.le_refl _) _
  go_enter Tryz.func23, Tryz.ntmps23
  go_wp2
  go_ret
  exact ⟨rfl, hbel⟩
set_option maxRecDepth 100000 in
set_option maxHeartbeats 4000000 in
theorem rr (a c at0 : Int) (w : World) (hgl : w.cell? ⟨0, 0, none⟩ = some (rty 27)) :
    Calls Tryz.prog 10 #[.iface 52 (.int .i64 a), .int .i64 at0, .int .i64 c] w fun e w' => e = .returned (.bool false) ∧ Below w.heap.size w w' := by
  have hAs := uV a w hgl
  go_enter Tryz.func10, Tryz.ntmps10
  go_wp2_with (first | (go_at_call 23; refine hAs.mono ?_; rintro e W ⟨rfl, hbel⟩; clear hAs hgl) | fail)
  go_ret
  exact ⟨rfl, hbel⟩
set_option maxRecDepth 100000 in
set_option maxHeartbeats 4000000 in
theorem tI (c at0 : Int) (w : World) : Calls Tryz.prog 10 #[.nilIface, .int .i64 at0, .int .i64 c] w fun e w' => e = .returned (.bool false) ∧ Below w.heap.size w w' := by
  have hAs := yd w
  go_enter Tryz.func10, Tryz.ntmps10
  go_wp2_with (first | (go_at_call 23; refine hAs.mono ?_; rintro e W ⟨rfl, hbel⟩; clear hAs) | fail)
  go_ret
  exact ⟨rfl, hbel⟩
end Go.Proofs.YtpkcgdikbjaoaaaGreatDoor

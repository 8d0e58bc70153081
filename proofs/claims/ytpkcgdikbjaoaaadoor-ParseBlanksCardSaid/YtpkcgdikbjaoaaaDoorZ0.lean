/- trammellaw00.Is, in the world: what it says of an error that is nil, a code, a spot. errors.As and errors.Is, in the world, of an error that is a code or a spot. errors.Is of a spot, and trammellaw00.Is, in the world. trammellaw00.Is, in the world. -/
import Derived.Test.YtpkcgdikbjaoaaaDoorChecked
import Derived.WalkKit
import Derived.LaidEql
import Derived.Lib.IfaceEq
import Derived.Stop.Asserts
import Derived.RowKitTokens
import Derived.Below
namespace Go.Proofs.YtpkcgdikbjaoaaaDoor
set_option linter.unusedSimpArgs false
set_option linter.unusedVariables false
open Go.RowKit Go.Extern.Stop Go.Stop Go.Extern
abbrev hnd (t : Nat) : Value := .pointer (some ⟨4, t, none⟩)
abbrev rty (t : Nat) : Value := .iface 103 (.agg #[hnd t])
theorem j0 (v : Value) (w : World) : (Extern.ReflectliteValue.unpack (.iface 71 v)).run Tryd.prog w = .ok (.agg #[hnd 71, .pointer (some ⟨w.heap.size, 0, none⟩), .int .u64 150]) (w.alloc (.cells v.cells 71 (0, 0))) := by kernel_rfl
theorem jR (v : Value) (w : World) : (Extern.ReflectliteValue.unpack (.iface 60 v)).run Tryd.prog w = .ok (.agg #[hnd 60, .pointer (some ⟨w.heap.size, 0, none⟩), .int .u64 150]) (w.alloc (.cells v.cells 60 (0, 0))) := by kernel_rfl
theorem py (g : Nat) (w : World) : (Extern.ReflectliteValue.methodAny (Extern.ReflectliteValue.valueError "reflectlite.Value.Type" 0) (fun t _ _ _ => Extern.ReflectliteType.toType t) #[.agg #[hnd 71, .pointer (some ⟨g, 0, none⟩), .int .u64 150]]).run Tryd.prog w = .ok (rty 71) w := by kernel_rfl
theorem eu {g : Nat} {v : Value} {w : World} {t : TypeId} (hc : w.cell? ⟨g, 0, none⟩ = some v) (hagg : (isAgg t).run Tryd.prog w = .ok false w) : (loadVar t ⟨g, 0, none⟩).run Tryd.prog w = .ok v w := by
  simp [loadVar, hagg, hc]
theorem nQ (g x : Nat) (w : World) (hc : w.cell? ⟨g, 0, none⟩ = some (.pointer (some ⟨x, 0, none⟩))) :
    (Extern.ReflectliteValue.method (Extern.ReflectliteValue.valueError "reflectlite.Value.IsNil" 0) Extern.ReflectliteValue.isNil #[.agg #[hnd 71, .pointer (some ⟨g, 0, none⟩), .int .u64 150]]).run Tryd.prog w = .ok (.bool false) w := by
  have h1 : (Extern.ReflectliteValue.parts (.agg #[hnd 71, .pointer (some ⟨g, 0, none⟩), .int .u64 150])).run Tryd.prog w = .ok (some (71, ⟨g, 0, none⟩, 150)) w := by kernel_rfl
  have h2 := eu (t := 71) hc (by kernel_rfl)
  have e : Extern.ReflectliteValue.method (Extern.ReflectliteValue.valueError "reflectlite.Value.IsNil" 0) Extern.ReflectliteValue.isNil #[.agg #[hnd 71, .pointer (some ⟨g, 0, none⟩), .int .u64 150]] =
    (Extern.ReflectliteValue.parts (.agg #[hnd 71, .pointer (some ⟨g, 0, none⟩), .int .u64 150]) >>= fun o => match o with | none => Extern.ReflectliteValue.valueError "reflectlite.Value.IsNil" 0 | some (t, a, fl) => Extern.ReflectliteValue.isNil t a fl (fl % 32)) := rfl
  rw [e, Sem.run_bind, h1]
  simp [Extern.ReflectliteValue.isNil, Sem.run_bind, h2, Result.andThen]
theorem sT (g x : Nat) (w : World) (hc : w.cell? ⟨g, 0, none⟩ = some (.pointer (some ⟨x, 0, none⟩))) :
    (Extern.ReflectliteValue.method (Extern.ReflectliteValue.valueError "reflectlite.Value.Elem" 0) Extern.ReflectliteValue.elem #[.agg #[hnd 71, .pointer (some ⟨g, 0, none⟩), .int .u64 150]]).run Tryd.prog w = .ok (.agg #[hnd 60, .pointer (some ⟨x, 0, none⟩), .int .u64 406]) w := by
  have h1 : (Extern.ReflectliteValue.parts (.agg #[hnd 71, .pointer (some ⟨g, 0, none⟩), .int .u64 150])).run Tryd.prog w = .ok (some (71, ⟨g, 0, none⟩, 150)) w := by kernel_rfl
  have h2 := eu (t := 71) hc (by kernel_rfl)
  have h3 : (Rtype.elem? 71).run Tryd.prog w = .ok (some 60) w := by kernel_rfl
  have h4 : (Extern.ReflectliteValue.mk 60 ⟨x, 0, none⟩ Extern.ReflectliteValue.flagAddr).run Tryd.prog w = .ok (.agg #[hnd 60, .pointer (some ⟨x, 0, none⟩), .int .u64 406]) w := by kernel_rfl
  have e : Extern.ReflectliteValue.method (Extern.ReflectliteValue.valueError "reflectlite.Value.Elem" 0) Extern.ReflectliteValue.elem #[.agg #[hnd 71, .pointer (some ⟨g, 0, none⟩), .int .u64 150]] =
    (Extern.ReflectliteValue.parts (.agg #[hnd 71, .pointer (some ⟨g, 0, none⟩), .int .u64 150]) >>= fun o => match o with | none => Extern.ReflectliteValue.valueError "reflectlite.Value.Elem" 0 | some (t, a, fl) => Extern.ReflectliteValue.elem t a fl (fl % 32)) := rfl
  rw [e, Sem.run_bind, h1]
  simp [Extern.ReflectliteValue.elem, Sem.run_bind, h2, h3, h4, Result.andThen]
theorem tK (x b p q : Nat) (u : Value) (w : World) (hc : w.cell? ⟨b, 0, none⟩ = some (.pointer (some ⟨p, q, none⟩))) (hx : w.cell? ⟨x, 0, none⟩ = some u) (hfz : w.frozen? ⟨x, 0, none⟩ = false) :
    (Extern.ReflectliteValue.set #[.agg #[hnd 60, .pointer (some ⟨x, 0, none⟩), .int .u64 406], .agg #[hnd 60, .pointer (some ⟨b, 0, none⟩), .int .u64 150]]).run Tryd.prog w = .ok (.tuple #[]) (w.setCell ⟨x, 0, none⟩ (.pointer (some ⟨p, q, none⟩))) := by
  have h1 : (Extern.ReflectliteValue.parts (.agg #[hnd 60, .pointer (some ⟨x, 0, none⟩), .int .u64 406])).run Tryd.prog w = .ok (some (60, ⟨x, 0, none⟩, 406)) w := by kernel_rfl
  have h1' : (Extern.ReflectliteValue.parts (.agg #[hnd 60, .pointer (some ⟨b, 0, none⟩), .int .u64 150])).run Tryd.prog w = .ok (some (60, ⟨b, 0, none⟩, 150)) w := by kernel_rfl
  have h2 := eu (t := 60) hc (by kernel_rfl)
  have h3 : (Rtype.directlyAssignable 60 60).run Tryd.prog w = .ok true w := by kernel_rfl
  have h4 : (storeVar 60 ⟨x, 0, none⟩ (.pointer (some ⟨p, q, none⟩))).run Tryd.prog w = .ok () (w.setCell ⟨x, 0, none⟩ (.pointer (some ⟨p, q, none⟩))) := by
    have hagg : (isAgg 60).run Tryd.prog w = .ok false w := by kernel_rfl
    simp [storeVar, hagg, storeCells, Value.cells, Addr.add]
    rw [run_store _ _ _ _ _ rfl, hx]
    simp [hfz]
  show ((Extern.ReflectliteValue.parts (.agg #[hnd 60, .pointer (some ⟨x, 0, none⟩), .int .u64 406]) >>= fun o1 => Extern.ReflectliteValue.parts (.agg #[hnd 60, .pointer (some ⟨b, 0, none⟩), .int .u64 150]) >>= fun o2 => _) : Sem Value).run _ w = _
  rw [Sem.run_bind, h1]
  simp only [Result.andThen]
  rw [Sem.run_bind, h1']
  simp [Sem.run_bind, h2, h3, h4, Result.andThen, Extern.ReflectliteValue.flagAddr]
theorem nR (n : Nat) (v : Value) (w : World) : (Go.method (n + 1) 103 (.agg #[v]) "Kind").run Tryd.prog w = .ok (87, v) w := by kernel_rfl
theorem nd (n : Nat) (v : Value) (w : World) : (Go.method (n + 1) 103 (.agg #[v]) "Elem").run Tryd.prog w = .ok (99, .agg #[v]) w := by kernel_rfl
theorem nS (n : Nat) (v : Value) (w : World) : (Go.method (n + 1) 103 (.agg #[v]) "Implements").run Tryd.prog w = .ok (100, .agg #[v]) w := by kernel_rfl
theorem qc (n : Nat) (v : Value) (w : World) : (Go.method (n + 1) 103 (.agg #[v]) "AssignableTo").run Tryd.prog w = .ok (97, .agg #[v]) w := by kernel_rfl
theorem rW (n : Nat) (v : Value) (w : World) : (Go.method (n + 1) 103 (.agg #[v]) "Comparable").run Tryd.prog w = .ok (98, .agg #[v]) w := by kernel_rfl
theorem nN (w : World) : (Extern.ReflectliteType.abiMethod (fun t => (fun a : Nat => Value.int .u8 (a : Int)) <$> Rtype.kind t) #[hnd 71]).run Tryd.prog w = .ok (.int .u8 22) w := by kernel_rfl
theorem nx (w : World) : (Extern.ReflectliteType.abiMethod (fun t => (fun a : Nat => Value.int .u8 (a : Int)) <$> Rtype.kind t) #[hnd 60]).run Tryd.prog w = .ok (.int .u8 22) w := by kernel_rfl
theorem nT (w : World) : (Extern.ReflectliteType.method Extern.ReflectliteType.elem #[.agg #[hnd 71]]).run Tryd.prog w = .ok (rty 60) w := by kernel_rfl
theorem pd (w : World) : (Extern.ReflectliteType.relation "Implements" Extern.ReflectliteType.implements_ #[.agg #[hnd 60], rty 25]).run Tryd.prog w = .ok (.bool true) w := by kernel_rfl
theorem pH (w : World) : (Extern.ReflectliteType.relation "AssignableTo" Extern.ReflectliteType.assignableTo #[.agg #[hnd 60], rty 60]).run Tryd.prog w = .ok (.bool true) w := by kernel_rfl
theorem sB (w : World) : (Extern.ReflectliteType.relation "AssignableTo" Extern.ReflectliteType.assignableTo #[.agg #[hnd 53], rty 60]).run Tryd.prog w = .ok (.bool false) w := by kernel_rfl
theorem jL (t : TypeId) (v : Value) (w : World) : (Extern.ReflectliteType.typeOf #[.iface t v]).run Tryd.prog w = .ok (rty t) w := by kernel_rfl
theorem sC (w : World) : (Extern.ReflectliteType.method (fun t => do Rtype.noPackHeld "Comparable" t; (fun a => Value.bool a.comparable) <$> typeInfo t) #[.agg #[hnd 53]]).run Tryd.prog w = .ok (.bool true) w := by kernel_rfl
end Go.Proofs.YtpkcgdikbjaoaaaDoor
namespace Go.Proofs.YtpkcgdikbjaoaaaDoor
set_option linter.unusedSimpArgs false
set_option linter.unusedVariables false
open Go.RowKit Go.Extern.Stop Go.Stop Go.Extern
theorem d8 {w : World} {b o : Nat} {v : Value} (h : w.cell? ⟨b, o, none⟩ = some v) (o1 : Obj) : (w.alloc o1).cell? ⟨b, o, none⟩ = some v := (World.cell?_alloc_lt w o1 ⟨b, o, none⟩ (World.block_lt_of_cell? w ⟨b, o, none⟩ h)).trans h
theorem qJ {w : World} {b o : Nat} {v : Value} (h : w.cell? ⟨b, o, none⟩ = some v) {o1 : Obj} : (w.alloc o1).frozen? ⟨b, o, none⟩ = w.frozen? ⟨b, o, none⟩ := by
  have := World.block_lt_of_cell? w ⟨b, o, none⟩ h
  exact World.frozen?_of_block (by show (w.heap.push o1)[b]? = _; rw [Array.getElem?_push, if_neg (by simp only at this; omega)])
theorem su (v : Value) (xT : TypeId) (w : World) : (Instr.typeAssert (.iface 53 v) xT 107 true).run Tryd.prog w = .ok (.tuple #[.nilIface, .bool false]) w := run_typeAssert_lacksB Tryd.underlying107 (by kernel_rfl) (by kernel_rfl) v xT w
theorem sJ (v : Value) (xT : TypeId) (w : World) : (Instr.typeAssert (.iface 53 v) xT 115 true).run Tryd.prog w = .ok (.tuple #[.nilIface, .bool false]) w := run_typeAssert_lacksB Tryd.underlying115 (by kernel_rfl) (by kernel_rfl) v xT w
theorem nL (v : Value) (xT : TypeId) (w : World) : (Instr.typeAssert (.iface 53 v) xT 110 true).run Tryd.prog w = .ok (.tuple #[.nilIface, .bool false]) w := run_typeAssert_lacksB Tryd.underlying110 (by kernel_rfl) (by kernel_rfl) v xT w
theorem ma (v : Value) (xT : TypeId) (w : World) : (Instr.typeAssert (.iface 53 v) xT 112 true).run Tryd.prog w = .ok (.tuple #[.nilIface, .bool false]) w := run_typeAssert_lacksB Tryd.underlying112 (by kernel_rfl) (by kernel_rfl) v xT w
theorem ri (v : Value) (xT : TypeId) (w : World) : (Instr.typeAssert (.iface 60 v) xT 115 true).run Tryd.prog w = .ok (.tuple #[.nilIface, .bool false]) w := run_typeAssert_lacksB Tryd.underlying115 (by kernel_rfl) (by kernel_rfl) v xT w
theorem ox (v : Value) (xT : TypeId) (w : World) : (Instr.typeAssert (.iface 60 v) xT 110 true).run Tryd.prog w = .ok (.tuple #[.iface 60 v, .bool true]) w := run_typeAssert_hasB Tryd.underlying110 (by kernel_rfl) v xT w
theorem sM (n : Nat) (v : Value) (w : World) : (Go.method (n + 1) 60 v "Unwrap").run Tryd.prog w = .ok (92, v) w := by kernel_rfl
set_option maxRecDepth 100000 in
set_option maxHeartbeats 4000000 in
theorem rB (p q g : Nat) (w : World) (hg : w.cell? ⟨g, 0, none⟩ = some (.pointer none)) (hfz : w.frozen? ⟨g, 0, none⟩ = false) (hgl : w.cell? ⟨1, 0, none⟩ = some (rty 25)) :
    Calls Tryd.prog 17 #[.iface 60 (.pointer (some ⟨p, q, none⟩)), .iface 71 (.pointer (some ⟨g, 0, none⟩))] w fun e w' => e = .returned (.bool true) ∧ ∃ o1 o2 o3 o4, w' = ((((w.alloc o1).alloc o2).alloc o3).alloc o4).setCell ⟨g, 0, none⟩ (.pointer (some ⟨p, q, none⟩)) := by
  have h33 := @run_callFunc_extern Tryd.prog 32 _ (fun args => Extern.ReflectliteValue.unpack (args.getD 0 (.tuple #[]))) Tryd.func32 (by kernel_rfl) (by kernel_rfl) (by kernel_rfl) (by kernel_rfl)
  have h34 := @run_callFunc_extern Tryd.prog 33 _ (Extern.ReflectliteValue.methodAny (Extern.ReflectliteValue.valueError "reflectlite.Value.Type" 0) (fun t _ _ _ => Extern.ReflectliteType.toType t)) Tryd.func33 (by kernel_rfl) (by kernel_rfl) (by kernel_rfl) (by kernel_rfl)
  have h62 := @run_callFunc_extern Tryd.prog 87 _ (Extern.ReflectliteType.abiMethod (fun t => do pure (.int .u8 (← Rtype.kind t)))) Tryd.func87 (by kernel_rfl) (by kernel_rfl) (by kernel_rfl) (by kernel_rfl)
  have h35 := @run_callFunc_extern Tryd.prog 34 _ (Extern.ReflectliteValue.method (Extern.ReflectliteValue.valueError "reflectlite.Value.IsNil" 0) Extern.ReflectliteValue.isNil) Tryd.func34 (by kernel_rfl) (by kernel_rfl) (by kernel_rfl) (by kernel_rfl)
  have h41 := @run_callFunc_extern Tryd.prog 49 _ (Extern.ReflectliteValue.method (Extern.ReflectliteValue.valueError "reflectlite.Value.Elem" 0) Extern.ReflectliteValue.elem) Tryd.func49 (by kernel_rfl) (by kernel_rfl) (by kernel_rfl) (by kernel_rfl)
  have h42 := @run_callFunc_extern Tryd.prog 50 _ Extern.ReflectliteValue.set Tryd.func50 (by kernel_rfl) (by kernel_rfl) (by kernel_rfl) (by kernel_rfl)
  have hEl := @run_callFunc_extern Tryd.prog 99 _ (Extern.ReflectliteType.method Extern.ReflectliteType.elem) Tryd.func99 (by kernel_rfl) (by kernel_rfl) (by kernel_rfl) (by kernel_rfl)
  have hIm := @run_callFunc_extern Tryd.prog 100 _ (Extern.ReflectliteType.relation "Implements" Extern.ReflectliteType.implements_) Tryd.func100 (by kernel_rfl) (by kernel_rfl) (by kernel_rfl) (by kernel_rfl)
  have hAs := @run_callFunc_extern Tryd.prog 97 _ (Extern.ReflectliteType.relation "AssignableTo" Extern.ReflectliteType.assignableTo) Tryd.func97 (by kernel_rfl) (by kernel_rfl) (by kernel_rfl) (by kernel_rfl)
  have hTo := @run_callFunc_extern Tryd.prog 36 _ Extern.ReflectliteType.typeOf Tryd.func36 (by kernel_rfl) (by kernel_rfl) (by kernel_rfl) (by kernel_rfl)
  have e1 := j0
  have e2 := jR
  have e3 := py
  have e4 := nR
  have e5 := nd
  have e6 := nS
  have e7 := qc
  have e8 := nN
  have e9 := nx
  have e10 := nT
  have e11 := pd
  have e12 := pH
  have e13 := jL
  have e14 := nQ
  have g2 := fun o1 o2 => d8 (d8 hgl o1) o2
  have e15 := fun o2 o3 => sT w.heap.size g (((w.alloc (.cells #[.pointer (some ⟨g, 0, none⟩)] 71 (0, 0))).alloc o2).alloc o3) (d8 (d8 (World.cell?_alloc_new w #[.pointer (some ⟨g, 0, none⟩)] 71 0) o2) o3)
  have e16 := fun o1 o2 o3 => tK g (w.heap.size + 1 + 1 + 1) p q (.pointer none) ((((w.alloc o1).alloc o2).alloc o3).alloc (.cells #[.pointer (some ⟨p, q, none⟩)] 60 (0, 0))) (by simpa using World.cell?_alloc_new (((w.alloc o1).alloc o2).alloc o3) #[.pointer (some ⟨p, q, none⟩)] 60 0) (d8 (d8 (d8 (d8 hg o1) o2) o3) _) (by
    rw [qJ (d8 (d8 (d8 hg o1) o2) o3), qJ (d8 (d8 hg o1) o2), qJ (d8 hg o1), qJ hg]; exact hfz)
  clear hgl
  go_enter Tryd.func17, Tryd.ntmps17
  go_wp2
  refine wp_loop_rounds 1 ?_
  rw [rounds_succ]
  go_wp2
  go_ret
  exact ⟨rfl, _, _, _, _, rfl⟩
set_option maxRecDepth 100000 in
set_option maxHeartbeats 4000000 in
theorem rm (c : Int) (g : Nat) (w : World) (hgl : w.cell? ⟨1, 0, none⟩ = some (rty 25)) :
    Calls Tryd.prog 17 #[.iface 53 (.int .i64 c), .iface 71 (.pointer (some ⟨g, 0, none⟩))] w fun e w' => e = .returned (.bool false) ∧ ∃ o1 o2 o3, w' = ((w.alloc o1).alloc o2).alloc o3 := by
  have h33 := @run_callFunc_extern Tryd.prog 32 _ (fun args => Extern.ReflectliteValue.unpack (args.getD 0 (.tuple #[]))) Tryd.func32 (by kernel_rfl) (by kernel_rfl) (by kernel_rfl) (by kernel_rfl)
  have h34 := @run_callFunc_extern Tryd.prog 33 _ (Extern.ReflectliteValue.methodAny (Extern.ReflectliteValue.valueError "reflectlite.Value.Type" 0) (fun t _ _ _ => Extern.ReflectliteType.toType t)) Tryd.func33 (by kernel_rfl) (by kernel_rfl) (by kernel_rfl) (by kernel_rfl)
  have h62 := @run_callFunc_extern Tryd.prog 87 _ (Extern.ReflectliteType.abiMethod (fun t => do pure (.int .u8 (← Rtype.kind t)))) Tryd.func87 (by kernel_rfl) (by kernel_rfl) (by kernel_rfl) (by kernel_rfl)
  have h35 := @run_callFunc_extern Tryd.prog 34 _ (Extern.ReflectliteValue.method (Extern.ReflectliteValue.valueError "reflectlite.Value.IsNil" 0) Extern.ReflectliteValue.isNil) Tryd.func34 (by kernel_rfl) (by kernel_rfl) (by kernel_rfl) (by kernel_rfl)
  have h41 := @run_callFunc_extern Tryd.prog 49 _ (Extern.ReflectliteValue.method (Extern.ReflectliteValue.valueError "reflectlite.Value.Elem" 0) Extern.ReflectliteValue.elem) Tryd.func49 (by kernel_rfl) (by kernel_rfl) (by kernel_rfl) (by kernel_rfl)
  have h42 := @run_callFunc_extern Tryd.prog 50 _ Extern.ReflectliteValue.set Tryd.func50 (by kernel_rfl) (by kernel_rfl) (by kernel_rfl) (by kernel_rfl)
  have hEl := @run_callFunc_extern Tryd.prog 99 _ (Extern.ReflectliteType.method Extern.ReflectliteType.elem) Tryd.func99 (by kernel_rfl) (by kernel_rfl) (by kernel_rfl) (by kernel_rfl)
  have hIm := @run_callFunc_extern Tryd.prog 100 _ (Extern.ReflectliteType.relation "Implements" Extern.ReflectliteType.implements_) Tryd.func100 (by kernel_rfl) (by kernel_rfl) (by kernel_rfl) (by kernel_rfl)
  have hAs := @run_callFunc_extern Tryd.prog 97 _ (Extern.ReflectliteType.relation "AssignableTo" Extern.ReflectliteType.assignableTo) Tryd.func97 (by kernel_rfl) (by kernel_rfl) (by kernel_rfl) (by kernel_rfl)
  have hTo := @run_callFunc_extern Tryd.prog 36 _ Extern.ReflectliteType.typeOf Tryd.func36 (by kernel_rfl) (by kernel_rfl) (by kernel_rfl) (by kernel_rfl)
  have e1 := j0
  have e2 := jR
  have e3 := py
  have e4 := nR
  have e5 := nd
  have e6 := nS
  have e7 := qc
  have e8 := nN
  have e9 := nx
  have e10 := nT
  have e11 := pd
  have e12 := pH
  have e13 := jL
  have e14 := nQ
  have g2 := fun o1 o2 => d8 (d8 hgl o1) o2
  have e15 := sB
  have e16 := su
  have e17 := nL
  have e18 := ma
  clear hgl
  go_enter Tryd.func17, Tryd.ntmps17
  go_wp2
  refine wp_loop_rounds 1 ?_
  rw [rounds_succ]
  go_wp2
  go_ret
  exact ⟨rfl, _, _, _, rfl⟩
end Go.Proofs.YtpkcgdikbjaoaaaDoor
namespace Go.Proofs.YtpkcgdikbjaoaaaDoor
set_option linter.unusedSimpArgs false
set_option linter.unusedVariables false
open Go.RowKit Go.Extern.Stop Go.Stop Go.Extern
theorem j3 : (Tryd.prog.info? 53).map (fun i => i.comparable) = some true := by kernel_rfl
set_option maxRecDepth 100000 in
set_option maxHeartbeats 4000000 in
theorem qW (p q : Nat) (e0 c : Int) (w : World) (hp : w.cell? ⟨p, q + 1, none⟩ = some (.iface 53 (.int .i64 e0))) :
    Calls Tryd.prog 18 #[.iface 60 (.pointer (some ⟨p, q, none⟩)), .iface 53 (.int .i64 c)] w fun e w' => e = .returned (.bool (e0 == c)) ∧ w' = w := by
  have hTo := @run_callFunc_extern Tryd.prog 36 _ Extern.ReflectliteType.typeOf Tryd.func36 (by kernel_rfl) (by kernel_rfl) (by kernel_rfl) (by kernel_rfl)
  have hCo := @run_callFunc_extern Tryd.prog 98 _ (Extern.ReflectliteType.method fun t => do Rtype.noPackHeld "Comparable" t; pure (.bool (← typeInfo t).comparable)) Tryd.func98 (by kernel_rfl) (by kernel_rfl) (by kernel_rfl) (by kernel_rfl)
  have e1 := jL
  have e2 := rW
  have e3 := sC
  have e4 := ri
  have e5 := ox
  have e6 := sM
  have e7 := sJ
  have e8 := nL
  have e9 := ma
  have hty := run_eql_iface_types (P := Tryd.prog) 60 53 (.pointer (some ⟨p, q, none⟩)) (.int .i64 c) Tryd.underlying25 (by decide) w
  have heq := fun (a b : Int) (w : World) => Go.Lib.run_eql_iface_int w (k := .i64) a b Tryd.underlying25 j3 Tryd.underlying53
  by_cases h : e0 = c
  · subst h
    have hb : (e0 == e0) = true := by simp
    go_enter Tryd.func18, Tryd.ntmps18
    go_wp2
    refine wp_loop_rounds 2 ?_
    rw [rounds_succ]
    go_wp2
    rw [rounds_succ]
    go_wp2
    go_ret
    exact ⟨by rw [hb]; rfl, rfl⟩
  · have hb : (e0 == c) = false := by simpa using h
    go_enter Tryd.func18, Tryd.ntmps18
    go_wp2
    refine wp_loop_rounds 2 ?_
    rw [rounds_succ]
    go_wp2
    rw [rounds_succ]
    go_wp2
    go_ret
    exact ⟨by rw [hb]; rfl, rfl⟩
end Go.Proofs.YtpkcgdikbjaoaaaDoor
namespace Go.Proofs.YtpkcgdikbjaoaaaDoor
set_option linter.unusedSimpArgs false
set_option linter.unusedVariables false
open Go.RowKit Go.Extern.Stop Go.Stop Go.Extern
theorem mD : (Tryd.prog.info? 60).map (fun i => i.comparable) = some true := by kernel_rfl
theorem mr : (Tryd.prog.info? 62).isSome = true := by kernel_rfl
theorem qU (w : World) (c : Array Value) (t : TypeId) : (w.alloc (.cells c t (0, 0))).frozen? ⟨w.heap.size, 0, none⟩ = false := by
  exact World.frozen?_alloc_new w c t 0
theorem p7 (p q : Nat) (w : World) (hgl : w.cell? ⟨1, 0, none⟩ = some (rty 25)) :
    Calls Tryd.prog 17 #[.iface 60 (.pointer (some ⟨p, q, none⟩)), .iface 71 (.pointer (some ⟨w.heap.size, 0, none⟩))] (w.alloc (.cells #[.pointer none] 60 (0, 0))) fun e w' => e = .returned (.bool true) ∧ w'.cell? ⟨w.heap.size, 0, none⟩ = some (.pointer (some ⟨p, q, none⟩)) ∧ Below w.heap.size w w' :=
  (rB p q w.heap.size _ (World.cell?_alloc_new w #[.pointer none] _ 0) (qU w _ _) (d8 hgl _)).mono fun e w' ⟨he, o1, o2, o3, o4, hw⟩ => by
    subst hw
    refine ⟨he, World.cell?_setCell_same _ _ _ (d8 (d8 (d8 (d8 (World.cell?_alloc_new w #[.pointer none] 60 0) o1) o2) o3) o4), ?_⟩
    exact ((((((Below.refl _ w).alloc (Nat.le_refl _) _).alloc (by simp) _).alloc (by simp; omega) _).alloc (by simp; omega) _).alloc (by simp; omega) _).setCell (Nat.le_refl _) _
set_option maxRecDepth 100000 in
set_option maxHeartbeats 4000000 in
theorem mG (p q : Nat) (a0 e0 at0 c : Int) (w : World) (hp0 : w.cell? ⟨p, q, none⟩ = some (.int .i64 a0)) (hp1 : w.cell? ⟨p, q + 1, none⟩ = some (.iface 53 (.int .i64 e0))) (hgl : w.cell? ⟨1, 0, none⟩ = some (rty 25)) :
    Calls Tryd.prog 8 #[.iface 60 (.pointer (some ⟨p, q, none⟩)), .int .i64 at0, .int .i64 c] w fun e w' => e = .returned (.bool ((e0 == c) && (a0 == at0))) ∧ Below w.heap.size w w' := by
  obtain ⟨i, hi, hcmp⟩ := Option.map_eq_some_iff.1 mD
  obtain ⟨j, hj⟩ := Option.isSome_iff_exists.1 mr
  have heq := fun w => run_eql_iface_ptr_same (P := Tryd.prog) w ⟨p, q, none⟩ Tryd.underlying25 Tryd.underlying60 hi hcmp hj
  have heqN : ∀ w, (binOp .neq 25 (.iface 60 (.pointer (some ⟨p, q, none⟩))) (.iface 60 (.pointer (some ⟨p, q, none⟩)))).run Tryd.prog w = .ok (.bool false) w := fun w => by
    simp only [binOp]
    simp [Op.equal, Op.maxDepth, run_equalIn_iface_ptr_same w 9998 ⟨p, q, none⟩ Tryd.underlying25 Tryd.underlying60 hi hcmp hj]
  have heq2 := fun (a b : Int) (w : World) => Go.Lib.run_eql_iface_int w (k := .i64) a b Tryd.underlying25 j3 Tryd.underlying53
  have hAs := p7 p q w hgl
  have hpl := World.block_lt_of_cell? w ⟨p, q, none⟩ hp0
  cases hb1 : (e0 == c) <;> cases hb2 : (a0 == at0)
  all_goals
    go_enter Tryd.func8, Tryd.ntmps8
    go_wp2_with (first | (go_at_call 17; refine hAs.mono ?_; rintro e W ⟨rfl, hg, hbel⟩; have hq0 := (hbel.cell (p := ⟨p, q, none⟩) hpl).trans hp0; have hq1 := (hbel.cell (p := ⟨p, q + 1, none⟩) hpl).trans hp1; have hIs := qW p q e0 c W hq1; rw [hb1] at hIs; clear hAs hp0 hp1 hgl) | (go_at_call 18; refine hIs.mono ?_; rintro e W2 ⟨rfl, rfl⟩))
    all_goals
      go_ret
      exact ⟨rfl, hbel⟩
theorem p6 (c : Int) (w : World) (hgl : w.cell? ⟨1, 0, none⟩ = some (rty 25)) :
    Calls Tryd.prog 17 #[.iface 53 (.int .i64 c), .iface 71 (.pointer (some ⟨w.heap.size, 0, none⟩))] (w.alloc (.cells #[.pointer none] 60 (0, 0))) fun e w' => e = .returned (.bool false) ∧ Below w.heap.size w w' :=
  (rm c w.heap.size _ (d8 hgl _)).mono fun e w' ⟨he, o1, o2, o3, hw⟩ => by
    subst hw
    exact ⟨he, (((((Below.refl _ w).alloc (Nat.le_refl _) _).alloc (by simp) _).alloc (by simp; omega) _).alloc (by simp; omega) _)⟩
theorem rI (w : World) : Calls Tryd.prog 17 #[.nilIface, .iface 71 (.pointer (some ⟨w.heap.size, 0, none⟩))] (w.alloc (.cells #[.pointer none] 60 (0, 0))) fun e w' => e = .returned (.bool false) ∧ Below w.heap.size w w' := by
  have hbel : Below w.heap.size w (w.alloc (.cells #[.pointer none] 60 (0, 0))) := (Below.refl _ w).alloc (Nat.le_refl _) _
  go_enter Tryd.func17, Tryd.ntmps17
  go_wp2
  go_ret
  exact ⟨rfl, hbel⟩
set_option maxRecDepth 100000 in
set_option maxHeartbeats 4000000 in
theorem mF (a c at0 : Int) (w : World) (hgl : w.cell? ⟨1, 0, none⟩ = some (rty 25)) :
    Calls Tryd.prog 8 #[.iface 53 (.int .i64 a), .int .i64 at0, .int .i64 c] w fun e w' => e = .returned (.bool false) ∧ Below w.heap.size w w' := by
  have hAs := p6 a w hgl
  go_enter Tryd.func8, Tryd.ntmps8
  go_wp2_with (first | (go_at_call 17; refine hAs.mono ?_; rintro e W ⟨rfl, hbel⟩; clear hAs hgl) | fail)
  go_ret
  exact ⟨rfl, hbel⟩
set_option maxRecDepth 100000 in
set_option maxHeartbeats 4000000 in
theorem oI (c at0 : Int) (w : World) : Calls Tryd.prog 8 #[.nilIface, .int .i64 at0, .int .i64 c] w fun e w' => e = .returned (.bool false) ∧ Below w.heap.size w w' := by
  have hAs := rI w
  go_enter Tryd.func8, Tryd.ntmps8
  go_wp2_with (first | (go_at_call 17; refine hAs.mono ?_; rintro e W ⟨rfl, hbel⟩; clear hAs) | fail)
  go_ret
  exact ⟨rfl, hbel⟩
end Go.Proofs.YtpkcgdikbjaoaaaDoor

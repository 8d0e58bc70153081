/- trammellaw00.Is, in the world: what it says of an error that is nil, a code, a spot. -/
import Derived.Test.YtijpbgflkdjcdaaDoorChecked
import Derived.WalkKit
import Derived.LaidEql
import Derived.Lib.IfaceEq
import Derived.Stop.Asserts
import Derived.RowKitTokens
namespace Go.Proofs.YtijpbgflkdjcdaaDoor
set_option linter.unusedSimpArgs false
set_option linter.unusedVariables false
open Go.RowKit Go.Extern.Stop Go.Stop Go.Extern

/-- A type's handle, and what reflectlite makes of a type. -/
abbrev hnd (t : Nat) : Value := .pointer (some ⟨1, t, none⟩)
abbrev rty (t : Nat) : Value := .iface 93 (.agg #[hnd t])
theorem x_valueOf (v : Value) (w : World) : (Extern.ReflectliteValue.unpack (.iface 64 v)).run Tryd.prog w = .ok (.agg #[hnd 64, .pointer (some ⟨w.heap.size, 0, none⟩), .int .u64 150]) (w.alloc (.cells v.cells 64 (0, 0))) := by kernel_rfl
theorem x_valueOfS (v : Value) (w : World) : (Extern.ReflectliteValue.unpack (.iface 51 v)).run Tryd.prog w = .ok (.agg #[hnd 51, .pointer (some ⟨w.heap.size, 0, none⟩), .int .u64 150]) (w.alloc (.cells v.cells 51 (0, 0))) := by kernel_rfl
theorem x_type (g : Nat) (w : World) : (Extern.ReflectliteValue.methodAny (Extern.ReflectliteValue.valueError "reflectlite.Value.Type" 0) (fun t _ _ _ => Extern.ReflectliteType.toType t) #[.agg #[hnd 64, .pointer (some ⟨g, 0, none⟩), .int .u64 150]]).run Tryd.prog w = .ok (rty 64) w := by kernel_rfl
/-! Whether what a target points to is nil; what it points to. -/
theorem run_loadVar_p {g : Nat} {v : Value} {w : World} {t : TypeId} (hc : w.cell? ⟨g, 0, none⟩ = some v) (hagg : (isAgg t).run Tryd.prog w = .ok false w) : (loadVar t ⟨g, 0, none⟩).run Tryd.prog w = .ok v w := by
  simp [loadVar, hagg, hc]
theorem x_isNil (g x : Nat) (w : World) (hc : w.cell? ⟨g, 0, none⟩ = some (.pointer (some ⟨x, 0, none⟩))) :
    (Extern.ReflectliteValue.method (Extern.ReflectliteValue.valueError "reflectlite.Value.IsNil" 0) Extern.ReflectliteValue.isNil #[.agg #[hnd 64, .pointer (some ⟨g, 0, none⟩), .int .u64 150]]).run Tryd.prog w = .ok (.bool false) w := by
  have h1 : (Extern.ReflectliteValue.parts (.agg #[hnd 64, .pointer (some ⟨g, 0, none⟩), .int .u64 150])).run Tryd.prog w = .ok (some (64, ⟨g, 0, none⟩, 150)) w := by kernel_rfl
  have h2 := run_loadVar_p (t := 64) hc (by kernel_rfl)
  have e : Extern.ReflectliteValue.method (Extern.ReflectliteValue.valueError "reflectlite.Value.IsNil" 0) Extern.ReflectliteValue.isNil #[.agg #[hnd 64, .pointer (some ⟨g, 0, none⟩), .int .u64 150]] =
    (Extern.ReflectliteValue.parts (.agg #[hnd 64, .pointer (some ⟨g, 0, none⟩), .int .u64 150]) >>= fun o => match o with | none => Extern.ReflectliteValue.valueError "reflectlite.Value.IsNil" 0 | some (t, a, fl) => Extern.ReflectliteValue.isNil t a fl (fl % 32)) := rfl
  rw [e, Sem.run_bind, h1]
  simp [Extern.ReflectliteValue.isNil, Sem.run_bind, h2, Result.andThen]
theorem x_elem (g x : Nat) (w : World) (hc : w.cell? ⟨g, 0, none⟩ = some (.pointer (some ⟨x, 0, none⟩))) :
    (Extern.ReflectliteValue.method (Extern.ReflectliteValue.valueError "reflectlite.Value.Elem" 0) Extern.ReflectliteValue.elem #[.agg #[hnd 64, .pointer (some ⟨g, 0, none⟩), .int .u64 150]]).run Tryd.prog w = .ok (.agg #[hnd 51, .pointer (some ⟨x, 0, none⟩), .int .u64 406]) w := by
  have h1 : (Extern.ReflectliteValue.parts (.agg #[hnd 64, .pointer (some ⟨g, 0, none⟩), .int .u64 150])).run Tryd.prog w = .ok (some (64, ⟨g, 0, none⟩, 150)) w := by kernel_rfl
  have h2 := run_loadVar_p (t := 64) hc (by kernel_rfl)
  have h3 : (Rtype.elem? 64).run Tryd.prog w = .ok (some 51) w := by kernel_rfl
  have h4 : (Extern.ReflectliteValue.mk 51 ⟨x, 0, none⟩ Extern.ReflectliteValue.flagAddr).run Tryd.prog w = .ok (.agg #[hnd 51, .pointer (some ⟨x, 0, none⟩), .int .u64 406]) w := by kernel_rfl
  have e : Extern.ReflectliteValue.method (Extern.ReflectliteValue.valueError "reflectlite.Value.Elem" 0) Extern.ReflectliteValue.elem #[.agg #[hnd 64, .pointer (some ⟨g, 0, none⟩), .int .u64 150]] =
    (Extern.ReflectliteValue.parts (.agg #[hnd 64, .pointer (some ⟨g, 0, none⟩), .int .u64 150]) >>= fun o => match o with | none => Extern.ReflectliteValue.valueError "reflectlite.Value.Elem" 0 | some (t, a, fl) => Extern.ReflectliteValue.elem t a fl (fl % 32)) := rfl
  rw [e, Sem.run_bind, h1]
  simp [Extern.ReflectliteValue.elem, Sem.run_bind, h2, h3, h4, Result.andThen]
theorem x_set (x b p q : Nat) (u : Value) (w : World) (hc : w.cell? ⟨b, 0, none⟩ = some (.pointer (some ⟨p, q, none⟩))) (hx : w.cell? ⟨x, 0, none⟩ = some u) (hfz : w.frozen? ⟨x, 0, none⟩ = false) :
    (Extern.ReflectliteValue.set #[.agg #[hnd 51, .pointer (some ⟨x, 0, none⟩), .int .u64 406], .agg #[hnd 51, .pointer (some ⟨b, 0, none⟩), .int .u64 150]]).run Tryd.prog w = .ok (.tuple #[]) (w.setCell ⟨x, 0, none⟩ (.pointer (some ⟨p, q, none⟩))) := by
  have h1 : (Extern.ReflectliteValue.parts (.agg #[hnd 51, .pointer (some ⟨x, 0, none⟩), .int .u64 406])).run Tryd.prog w = .ok (some (51, ⟨x, 0, none⟩, 406)) w := by kernel_rfl
  have h1' : (Extern.ReflectliteValue.parts (.agg #[hnd 51, .pointer (some ⟨b, 0, none⟩), .int .u64 150])).run Tryd.prog w = .ok (some (51, ⟨b, 0, none⟩, 150)) w := by kernel_rfl
  have h2 := run_loadVar_p (t := 51) hc (by kernel_rfl)
  have h3 : (Rtype.directlyAssignable 51 51).run Tryd.prog w = .ok true w := by kernel_rfl
  have h4 : (storeVar 51 ⟨x, 0, none⟩ (.pointer (some ⟨p, q, none⟩))).run Tryd.prog w = .ok () (w.setCell ⟨x, 0, none⟩ (.pointer (some ⟨p, q, none⟩))) := by
    have hagg : (isAgg 51).run Tryd.prog w = .ok false w := by kernel_rfl
    simp [storeVar, hagg, storeCells, Value.cells, Addr.add]
    rw [run_store _ _ _ _ _ rfl, hx]
    simp [hfz]
  show ((Extern.ReflectliteValue.parts (.agg #[hnd 51, .pointer (some ⟨x, 0, none⟩), .int .u64 406]) >>= fun o1 => Extern.ReflectliteValue.parts (.agg #[hnd 51, .pointer (some ⟨b, 0, none⟩), .int .u64 150]) >>= fun o2 => _) : Sem Value).run _ w = _
  rw [Sem.run_bind, h1]
  simp only [Result.andThen]
  rw [Sem.run_bind, h1']
  simp [Sem.run_bind, h2, h3, h4, Result.andThen, Extern.ReflectliteValue.flagAddr]
/-! ### errors.As. -/
theorem x_kindM (n : Nat) (v : Value) (w : World) : (Go.method (n + 1) 93 (.agg #[v]) "Kind").run Tryd.prog w = .ok (84, v) w := by kernel_rfl
theorem x_elemM (n : Nat) (v : Value) (w : World) : (Go.method (n + 1) 93 (.agg #[v]) "Elem").run Tryd.prog w = .ok (96, .agg #[v]) w := by kernel_rfl
theorem x_implM (n : Nat) (v : Value) (w : World) : (Go.method (n + 1) 93 (.agg #[v]) "Implements").run Tryd.prog w = .ok (97, .agg #[v]) w := by kernel_rfl
theorem x_assM (n : Nat) (v : Value) (w : World) : (Go.method (n + 1) 93 (.agg #[v]) "AssignableTo").run Tryd.prog w = .ok (94, .agg #[v]) w := by kernel_rfl
theorem x_compM (n : Nat) (v : Value) (w : World) : (Go.method (n + 1) 93 (.agg #[v]) "Comparable").run Tryd.prog w = .ok (95, .agg #[v]) w := by kernel_rfl
theorem x_kind1 (w : World) : (Extern.ReflectliteType.abiMethod (fun t => (fun a : Nat => Value.int .u8 (a : Int)) <$> Rtype.kind t) #[hnd 64]).run Tryd.prog w = .ok (.int .u8 22) w := by kernel_rfl
theorem x_kind2 (w : World) : (Extern.ReflectliteType.abiMethod (fun t => (fun a : Nat => Value.int .u8 (a : Int)) <$> Rtype.kind t) #[hnd 51]).run Tryd.prog w = .ok (.int .u8 22) w := by kernel_rfl
theorem x_telem (w : World) : (Extern.ReflectliteType.method Extern.ReflectliteType.elem #[.agg #[hnd 64]]).run Tryd.prog w = .ok (rty 51) w := by kernel_rfl
theorem x_impl (w : World) : (Extern.ReflectliteType.relation "Implements" Extern.ReflectliteType.implements_ #[.agg #[hnd 51], rty 27]).run Tryd.prog w = .ok (.bool true) w := by kernel_rfl
theorem x_assS (w : World) : (Extern.ReflectliteType.relation "AssignableTo" Extern.ReflectliteType.assignableTo #[.agg #[hnd 51], rty 51]).run Tryd.prog w = .ok (.bool true) w := by kernel_rfl
theorem x_assC (w : World) : (Extern.ReflectliteType.relation "AssignableTo" Extern.ReflectliteType.assignableTo #[.agg #[hnd 42], rty 51]).run Tryd.prog w = .ok (.bool false) w := by kernel_rfl
theorem x_typeOf (t : TypeId) (v : Value) (w : World) : (Extern.ReflectliteType.typeOf #[.iface t v]).run Tryd.prog w = .ok (rty t) w := by kernel_rfl
theorem x_comp (w : World) : (Extern.ReflectliteType.method (fun t => do Rtype.noPackHeld "Comparable" t; (fun a => Value.bool a.comparable) <$> typeInfo t) #[.agg #[hnd 42]]).run Tryd.prog w = .ok (.bool true) w := by kernel_rfl
end Go.Proofs.YtijpbgflkdjcdaaDoor

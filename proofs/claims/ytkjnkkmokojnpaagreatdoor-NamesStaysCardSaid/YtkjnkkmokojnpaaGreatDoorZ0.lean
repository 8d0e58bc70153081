/- trammellaw00.Is, in the world: what it says of an error that is nil, a code, a spot. errors.As and errors.Is, in the world, of an error that is a code or a spot. errors.Is of a spot, and trammellaw00.Is, in the world. trammellaw00.Is, in the world. -/
import Derived.Test.YtkjnkkmokojnpaaGreatDoorChecked
import Derived.WalkKit
import Derived.LaidEql
import Derived.Lib.IfaceEq
import Derived.Stop.Asserts
import Derived.RowKitTokens
import Derived.Below
namespace Go.Proofs.YtkjnkkmokojnpaaGreatDoor
set_option linter.unusedSimpArgs false
set_option linter.unusedVariables false
open Go.RowKit Go.Extern.Stop Go.Stop Go.Extern
abbrev hnd (t : Nat) : Value := .pointer (some ⟨7,t,none⟩)
abbrev rty (t : Nat) : Value := .iface 212 (.agg #[hnd t])
theorem xL (v : Value) (w : World) : (Extern.ReflectliteValue.unpack (.iface 110 v)).run Tryz.prog w = .ok (.agg #[hnd 110,.pointer (some ⟨w.heap.size,0,none⟩),.int .u64 150]) (w.alloc (.cells v.cells 110 (0,0))) := by kernel_rfl
theorem vL (v : Value) (w : World) : (Extern.ReflectliteValue.unpack (.iface 63 v)).run Tryz.prog w = .ok (.agg #[hnd 63,.pointer (some ⟨w.heap.size,0,none⟩),.int .u64 150]) (w.alloc (.cells v.cells 63 (0,0))) := by kernel_rfl
theorem DX (g : Nat) (w : World) : (Extern.ReflectliteValue.methodAny (Extern.ReflectliteValue.valueError "reflectlite.Value.Type" 0) (fun t _ _ _ => Extern.ReflectliteType.toType t) #[.agg #[hnd 110,.pointer (some ⟨g,0,none⟩),.int .u64 150]]).run Tryz.prog w = .ok (rty 110) w := by kernel_rfl
theorem jO {g : Nat} {v : Value} {w : World} {t : TypeId} (hc : w.cell? ⟨g,0,none⟩ = some v) (hagg : (isAgg t).run Tryz.prog w = .ok false w) : (loadVar t ⟨g,0,none⟩).run Tryz.prog w = .ok v w := by
 simp [loadVar,hagg,hc]
theorem Cm (g x : Nat) (w : World) (hc : w.cell? ⟨g,0,none⟩ = some (.pointer (some ⟨x,0,none⟩))) :
  (Extern.ReflectliteValue.method (Extern.ReflectliteValue.valueError "reflectlite.Value.IsNil" 0) Extern.ReflectliteValue.isNil #[.agg #[hnd 110,.pointer (some ⟨g,0,none⟩),.int .u64 150]]).run Tryz.prog w = .ok (.bool false) w := by
 have h1 : (Extern.ReflectliteValue.parts (.agg #[hnd 110,.pointer (some ⟨g,0,none⟩),.int .u64 150])).run Tryz.prog w = .ok (some (110,⟨g,0,none⟩,150)) w := by kernel_rfl
 have h2 := jO (t := 110) hc (by kernel_rfl)
 have e : Extern.ReflectliteValue.method (Extern.ReflectliteValue.valueError "reflectlite.Value.IsNil" 0) Extern.ReflectliteValue.isNil #[.agg #[hnd 110,.pointer (some ⟨g,0,none⟩),.int .u64 150]] =
  (Extern.ReflectliteValue.parts (.agg #[hnd 110,.pointer (some ⟨g,0,none⟩),.int .u64 150]) >>= fun o => match o with | none => Extern.ReflectliteValue.valueError "reflectlite.Value.IsNil" 0 | some (t,a,fl) => Extern.ReflectliteValue.isNil t a fl (fl % 32)) := rfl
 rw [e,Sem.run_bind,h1]
 simp [Extern.ReflectliteValue.isNil,Sem.run_bind,h2,Result.andThen]
theorem DU (g x : Nat) (w : World) (hc : w.cell? ⟨g,0,none⟩ = some (.pointer (some ⟨x,0,none⟩))) :
  (Extern.ReflectliteValue.method (Extern.ReflectliteValue.valueError "reflectlite.Value.Elem" 0) Extern.ReflectliteValue.elem #[.agg #[hnd 110,.pointer (some ⟨g,0,none⟩),.int .u64 150]]).run Tryz.prog w = .ok (.agg #[hnd 63,.pointer (some ⟨x,0,none⟩),.int .u64 406]) w := by
 have h1 : (Extern.ReflectliteValue.parts (.agg #[hnd 110,.pointer (some ⟨g,0,none⟩),.int .u64 150])).run Tryz.prog w = .ok (some (110,⟨g,0,none⟩,150)) w := by kernel_rfl
 have h2 := jO (t := 110) hc (by kernel_rfl)
 have h3 : (Rtype.elem? 110).run Tryz.prog w = .ok (some 63) w := by kernel_rfl
 have h4 : (Extern.ReflectliteValue.mk 63 ⟨x,0,none⟩ Extern.ReflectliteValue.flagAddr).run Tryz.prog w = .ok (.agg #[hnd 63,.pointer (some ⟨x,0,none⟩),.int .u64 406]) w := by kernel_rfl
 have e : Extern.ReflectliteValue.method (Extern.ReflectliteValue.valueError "reflectlite.Value.Elem" 0) Extern.ReflectliteValue.elem #[.agg #[hnd 110,.pointer (some ⟨g,0,none⟩),.int .u64 150]] =
  (Extern.ReflectliteValue.parts (.agg #[hnd 110,.pointer (some ⟨g,0,none⟩),.int .u64 150]) >>= fun o => match o with | none => Extern.ReflectliteValue.valueError "reflectlite.Value.Elem" 0 | some (t,a,fl) => Extern.ReflectliteValue.elem t a fl (fl % 32)) := rfl
 rw [e,Sem.run_bind,h1]
 simp [Extern.ReflectliteValue.elem,Sem.run_bind,h2,h3,h4,Result.andThen]
theorem E1 (x b p q : Nat) (u : Value) (w : World) (hc : w.cell? ⟨b,0,none⟩ = some (.pointer (some ⟨p,q,none⟩))) (hx : w.cell? ⟨x,0,none⟩ = some u) (hfz : w.frozen? ⟨x,0,none⟩ = false) :
  (Extern.ReflectliteValue.set #[.agg #[hnd 63,.pointer (some ⟨x,0,none⟩),.int .u64 406],.agg #[hnd 63,.pointer (some ⟨b,0,none⟩),.int .u64 150]]).run Tryz.prog w = .ok (.tuple #[]) (w.setCell ⟨x,0,none⟩ (.pointer (some ⟨p,q,none⟩))) := by
 have h1 : (Extern.ReflectliteValue.parts (.agg #[hnd 63,.pointer (some ⟨x,0,none⟩),.int .u64 406])).run Tryz.prog w = .ok (some (63,⟨x,0,none⟩,406)) w := by kernel_rfl
 have h1' : (Extern.ReflectliteValue.parts (.agg #[hnd 63,.pointer (some ⟨b,0,none⟩),.int .u64 150])).run Tryz.prog w = .ok (some (63,⟨b,0,none⟩,150)) w := by kernel_rfl
 have h2 := jO (t := 63) hc (by kernel_rfl)
 have h3 : (Rtype.directlyAssignable 63 63).run Tryz.prog w = .ok true w := by kernel_rfl
 have h4 : (storeVar 63 ⟨x,0,none⟩ (.pointer (some ⟨p,q,none⟩))).run Tryz.prog w = .ok () (w.setCell ⟨x,0,none⟩ (.pointer (some ⟨p,q,none⟩))) := by
  have hagg : (isAgg 63).run Tryz.prog w = .ok false w := by kernel_rfl
  simp [storeVar,hagg,storeCells,Value.cells,Addr.add]
  rw [run_store _ _ _ _ _ rfl,hx]
  simp [hfz]
 show ((Extern.ReflectliteValue.parts (.agg #[hnd 63,.pointer (some ⟨x,0,none⟩),.int .u64 406]) >>= fun o1 => Extern.ReflectliteValue.parts (.agg #[hnd 63,.pointer (some ⟨b,0,none⟩),.int .u64 150]) >>= fun o2 => _) : Sem Value).run _ w = _
 rw [Sem.run_bind,h1]
 simp only [Result.andThen]
 rw [Sem.run_bind,h1']
 simp [Sem.run_bind,h2,h3,h4,Result.andThen,Extern.ReflectliteValue.flagAddr]
theorem Cq (n : Nat) (v : Value) (w : World) : (Go.method (n + 1) 212 (.agg #[v]) "Kind").run Tryz.prog w = .ok (285,v) w := by kernel_rfl
theorem Ck (n : Nat) (v : Value) (w : World) : (Go.method (n + 1) 212 (.agg #[v]) "Elem").run Tryz.prog w = .ok (298,.agg #[v]) w := by kernel_rfl
theorem Cl (n : Nat) (v : Value) (w : World) : (Go.method (n + 1) 212 (.agg #[v]) "Implements").run Tryz.prog w = .ok (299,.agg #[v]) w := by kernel_rfl
theorem DR (n : Nat) (v : Value) (w : World) : (Go.method (n + 1) 212 (.agg #[v]) "AssignableTo").run Tryz.prog w = .ok (296,.agg #[v]) w := by kernel_rfl
theorem Cj (n : Nat) (v : Value) (w : World) : (Go.method (n + 1) 212 (.agg #[v]) "Comparable").run Tryz.prog w = .ok (297,.agg #[v]) w := by kernel_rfl
theorem Cn (w : World) : (Extern.ReflectliteType.abiMethod (fun t => (fun a : Nat => Value.int .u8 (a : Int)) <$> Rtype.kind t) #[hnd 110]).run Tryz.prog w = .ok (.int .u8 22) w := by kernel_rfl
theorem Cp (w : World) : (Extern.ReflectliteType.abiMethod (fun t => (fun a : Nat => Value.int .u8 (a : Int)) <$> Rtype.kind t) #[hnd 63]).run Tryz.prog w = .ok (.int .u8 22) w := by kernel_rfl
theorem Ct (w : World) : (Extern.ReflectliteType.method Extern.ReflectliteType.elem #[.agg #[hnd 110]]).run Tryz.prog w = .ok (rty 63) w := by kernel_rfl
theorem DV (w : World) : (Extern.ReflectliteType.relation "Implements" Extern.ReflectliteType.implements_ #[.agg #[hnd 63],rty 28]).run Tryz.prog w = .ok (.bool true) w := by kernel_rfl
theorem DS (w : World) : (Extern.ReflectliteType.relation "AssignableTo" Extern.ReflectliteType.assignableTo #[.agg #[hnd 63],rty 63]).run Tryz.prog w = .ok (.bool true) w := by kernel_rfl
theorem uJ (t : TypeId) (v : Value) (w : World) : (Extern.ReflectliteType.typeOf #[.iface t v]).run Tryz.prog w = .ok (rty t) w := by kernel_rfl
theorem DT (w : World) : (Extern.ReflectliteType.method (fun t => do Rtype.noPackHeld "Comparable" t; (fun a => Value.bool a.comparable) <$> typeInfo t) #[.agg #[hnd 41]]).run Tryz.prog w = .ok (.bool true) w := by kernel_rfl
end Go.Proofs.YtkjnkkmokojnpaaGreatDoor
namespace Go.Proofs.YtkjnkkmokojnpaaGreatDoor
set_option linter.unusedSimpArgs false
set_option linter.unusedVariables false
open Go.RowKit Go.Extern.Stop Go.Stop Go.Extern
theorem kq {w : World} {b o : Nat} {v : Value} (h : w.cell? ⟨b,o,none⟩ = some v) (o1 : Obj) : (w.alloc o1).cell? ⟨b,o,none⟩ = some v := (World.cell?_alloc_lt w o1 ⟨b,o,none⟩ (World.block_lt_of_cell? w ⟨b,o,none⟩ h)).trans h
theorem Au {w : World} {b o : Nat} {v : Value} (h : w.cell? ⟨b,o,none⟩ = some v) {o1 : Obj} : (w.alloc o1).frozen? ⟨b,o,none⟩ = w.frozen? ⟨b,o,none⟩ := by
 have := World.block_lt_of_cell? w ⟨b,o,none⟩ h
 exact World.frozen?_of_block (by show (w.heap.push o1)[b]? = _; rw [Array.getElem?_push,if_neg (by simp only at this; omega)])
theorem DW (v : Value) (xT : TypeId) (w : World) : (Instr.typeAssert (.iface 41 v) xT 224 true).run Tryz.prog w = .ok (.tuple #[.nilIface,.bool false]) w := run_typeAssert_lacksB Tryz.underlying224 (by kernel_rfl) (by kernel_rfl) v xT w
theorem Cs (v : Value) (xT : TypeId) (w : World) : (Instr.typeAssert (.iface 41 v) xT 219 true).run Tryz.prog w = .ok (.tuple #[.nilIface,.bool false]) w := run_typeAssert_lacksB Tryz.underlying219 (by kernel_rfl) (by kernel_rfl) v xT w
theorem zQ (v : Value) (xT : TypeId) (w : World) : (Instr.typeAssert (.iface 41 v) xT 221 true).run Tryz.prog w = .ok (.tuple #[.nilIface,.bool false]) w := run_typeAssert_lacksB Tryz.underlying221 (by kernel_rfl) (by kernel_rfl) v xT w
theorem Cr (v : Value) (xT : TypeId) (w : World) : (Instr.typeAssert (.iface 63 v) xT 224 true).run Tryz.prog w = .ok (.tuple #[.nilIface,.bool false]) w := run_typeAssert_lacksB Tryz.underlying224 (by kernel_rfl) (by kernel_rfl) v xT w
theorem xK (v : Value) (xT : TypeId) (w : World) : (Instr.typeAssert (.iface 63 v) xT 219 true).run Tryz.prog w = .ok (.tuple #[.iface 63 v,.bool true]) w := run_typeAssert_hasB Tryz.underlying219 (by kernel_rfl) v xT w
theorem DY (n : Nat) (v : Value) (w : World) : (Go.method (n + 1) 63 v "Unwrap").run Tryz.prog w = .ok (290,v) w := by kernel_rfl
set_option maxRecDepth 100000 in
set_option maxHeartbeats 4000000 in
theorem zV (p q g : Nat) (w : World) (hg : w.cell? ⟨g,0,none⟩ = some (.pointer none)) (hfz : w.frozen? ⟨g,0,none⟩ = false) (hgl : w.cell? ⟨0,0,none⟩ = some (rty 28)) :
  Calls Tryz.prog 60 #[.iface 63 (.pointer (some ⟨p,q,none⟩)),.iface 110 (.pointer (some ⟨g,0,none⟩))] w fun e w' => e = .returned (.bool true) ∧ ∃ o1 o2 o3 o4,w' = ((((w.alloc o1).alloc o2).alloc o3).alloc o4).setCell ⟨g,0,none⟩ (.pointer (some ⟨p,q,none⟩)) := by
 have h33 := @run_callFunc_extern Tryz.prog 144 _ (fun args => Extern.ReflectliteValue.unpack (args.getD 0 (.tuple #[]))) Tryz.func144 (by kernel_rfl) (by kernel_rfl) (by kernel_rfl) (by kernel_rfl)
 have h34 := @run_callFunc_extern Tryz.prog 145 _ (Extern.ReflectliteValue.methodAny (Extern.ReflectliteValue.valueError "reflectlite.Value.Type" 0) (fun t _ _ _ => Extern.ReflectliteType.toType t)) Tryz.func145 (by kernel_rfl) (by kernel_rfl) (by kernel_rfl) (by kernel_rfl)
 have h62 := @run_callFunc_extern Tryz.prog 285 _ (Extern.ReflectliteType.abiMethod (fun t => do pure (.int .u8 (← Rtype.kind t)))) Tryz.func285 (by kernel_rfl) (by kernel_rfl) (by kernel_rfl) (by kernel_rfl)
 have h35 := @run_callFunc_extern Tryz.prog 146 _ (Extern.ReflectliteValue.method (Extern.ReflectliteValue.valueError "reflectlite.Value.IsNil" 0) Extern.ReflectliteValue.isNil) Tryz.func146 (by kernel_rfl) (by kernel_rfl) (by kernel_rfl) (by kernel_rfl)
 have h41 := @run_callFunc_extern Tryz.prog 203 _ (Extern.ReflectliteValue.method (Extern.ReflectliteValue.valueError "reflectlite.Value.Elem" 0) Extern.ReflectliteValue.elem) Tryz.func203 (by kernel_rfl) (by kernel_rfl) (by kernel_rfl) (by kernel_rfl)
 have h42 := @run_callFunc_extern Tryz.prog 204 _ Extern.ReflectliteValue.set Tryz.func204 (by kernel_rfl) (by kernel_rfl) (by kernel_rfl) (by kernel_rfl)
 have hEl := @run_callFunc_extern Tryz.prog 298 _ (Extern.ReflectliteType.method Extern.ReflectliteType.elem) Tryz.func298 (by kernel_rfl) (by kernel_rfl) (by kernel_rfl) (by kernel_rfl)
 have hIm := @run_callFunc_extern Tryz.prog 299 _ (Extern.ReflectliteType.relation "Implements" Extern.ReflectliteType.implements_) Tryz.func299 (by kernel_rfl) (by kernel_rfl) (by kernel_rfl) (by kernel_rfl)
 have hAs := @run_callFunc_extern Tryz.prog 296 _ (Extern.ReflectliteType.relation "AssignableTo" Extern.ReflectliteType.assignableTo) Tryz.func296 (by kernel_rfl) (by kernel_rfl) (by kernel_rfl) (by kernel_rfl)
 have hTo := @run_callFunc_extern Tryz.prog 148 _ Extern.ReflectliteType.typeOf Tryz.func148 (by kernel_rfl) (by kernel_rfl) (by kernel_rfl) (by kernel_rfl)
 have e1 := xL
 have e2 := vL
 have e3 := DX
 have e4 := Cq
 have e5 := Ck
 have e6 := Cl
 have e7 := DR
 have e8 := Cn
 have e9 := Cp
 have e10 := Ct
 have e11 := DV
 have e12 := DS
 have e13 := uJ
 have e14 := Cm
 have g2 := fun o1 o2 => kq (kq hgl o1) o2
 have e15 := fun o2 o3 => DU w.heap.size g (((w.alloc (.cells #[.pointer (some ⟨g,0,none⟩)] 110 (0,0))).alloc o2).alloc o3) (kq (kq (World.cell?_alloc_new w #[.pointer (some ⟨g,0,none⟩)] 110 0) o2) o3)
 have e16 := fun o1 o2 o3 => E1 g (w.heap.size + 1 + 1 + 1) p q (.pointer none) ((((w.alloc o1).alloc o2).alloc o3).alloc (.cells #[.pointer (some ⟨p,q,none⟩)] 63 (0,0))) (by simpa using World.cell?_alloc_new (((w.alloc o1).alloc o2).alloc o3) #[.pointer (some ⟨p,q,none⟩)] 63 0) (kq (kq (kq (kq hg o1) o2) o3) _) (by
  rw [Au (kq (kq (kq hg o1) o2) o3),Au (kq (kq hg o1) o2),Au (kq hg o1),Au hg]; exact hfz)
 clear hgl
 go_enter Tryz.func60,Tryz.ntmps60
 go_wp2
 refine wp_loop_rounds 1 ?_
 rw [rounds_succ]
 go_wp2
 go_ret
 exact ⟨rfl,_,_,_,_,rfl⟩
end Go.Proofs.YtkjnkkmokojnpaaGreatDoor
namespace Go.Proofs.YtkjnkkmokojnpaaGreatDoor
set_option linter.unusedSimpArgs false
set_option linter.unusedVariables false
open Go.RowKit Go.Extern.Stop Go.Stop Go.Extern
theorem rU : (Tryz.prog.info? 41).map (fun i => i.comparable) = some true := by kernel_rfl
set_option maxRecDepth 100000 in
set_option maxHeartbeats 4000000 in
theorem AU (p q : Nat) (e0 c : Int) (w : World) (hp : w.cell? ⟨p,q + 1,none⟩ = some (.iface 41 (.int .i64 e0))) :
  Calls Tryz.prog 61 #[.iface 63 (.pointer (some ⟨p,q,none⟩)),.iface 41 (.int .i64 c)] w fun e w' => e = .returned (.bool (e0 == c)) ∧ w' = w := by
 have hTo := @run_callFunc_extern Tryz.prog 148 _ Extern.ReflectliteType.typeOf Tryz.func148 (by kernel_rfl) (by kernel_rfl) (by kernel_rfl) (by kernel_rfl)
 have hCo := @run_callFunc_extern Tryz.prog 297 _ (Extern.ReflectliteType.method fun t => do Rtype.noPackHeld "Comparable" t; pure (.bool (← typeInfo t).comparable)) Tryz.func297 (by kernel_rfl) (by kernel_rfl) (by kernel_rfl) (by kernel_rfl)
 have e1 := uJ
 have e2 := Cj
 have e3 := DT
 have e4 := Cr
 have e5 := xK
 have e6 := DY
 have e7 := DW
 have e8 := Cs
 have e9 := zQ
 have hty := run_eql_iface_types (P := Tryz.prog) 63 41 (.pointer (some ⟨p,q,none⟩)) (.int .i64 c) Tryz.underlying28 (by decide) w
 have heq := fun (a b : Int) (w : World) => Go.Lib.run_eql_iface_int w (k := .i64) a b Tryz.underlying28 rU Tryz.underlying41
 by_cases h : e0 = c
 ·subst h
  have hb : (e0 == e0) = true := by simp
  go_enter Tryz.func61,Tryz.ntmps61
  go_wp2
  refine wp_loop_rounds 2 ?_
  rw [rounds_succ]
  go_wp2
  rw [rounds_succ]
  go_wp2
  go_ret
  exact ⟨by rw [hb]; rfl,rfl⟩
 ·have hb : (e0 == c) = false := by simpa using h
  go_enter Tryz.func61,Tryz.ntmps61
  go_wp2
  refine wp_loop_rounds 2 ?_
  rw [rounds_succ]
  go_wp2
  rw [rounds_succ]
  go_wp2
  go_ret
  exact ⟨by rw [hb]; rfl,rfl⟩
end Go.Proofs.YtkjnkkmokojnpaaGreatDoor
namespace Go.Proofs.YtkjnkkmokojnpaaGreatDoor
set_option linter.unusedSimpArgs false
set_option linter.unusedVariables false
open Go.RowKit Go.Extern.Stop Go.Stop Go.Extern
theorem vK : (Tryz.prog.info? 63).map (fun i => i.comparable) = some true := by kernel_rfl
theorem uI : (Tryz.prog.info? 65).isSome = true := by kernel_rfl
theorem Av (w : World) (c : Array Value) (t : TypeId) : (w.alloc (.cells c t (0,0))).frozen? ⟨w.heap.size,0,none⟩ = false := by
 exact World.frozen?_alloc_new w c t 0
theorem xZ (p q : Nat) (w : World) (hgl : w.cell? ⟨0,0,none⟩ = some (rty 28)) :
  Calls Tryz.prog 60 #[.iface 63 (.pointer (some ⟨p,q,none⟩)),.iface 110 (.pointer (some ⟨w.heap.size,0,none⟩))] (w.alloc (.cells #[.pointer none] 63 (0,0))) fun e w' => e = .returned (.bool true) ∧ w'.cell? ⟨w.heap.size,0,none⟩ = some (.pointer (some ⟨p,q,none⟩)) ∧ Below w.heap.size w w' :=
 (zV p q w.heap.size _ (World.cell?_alloc_new w #[.pointer none] _ 0) (Av w _ _) (kq hgl _)).mono fun e w' ⟨he,o1,o2,o3,o4,hw⟩ => by
  subst hw
  refine ⟨he,World.cell?_setCell_same _ _ _ (kq (kq (kq (kq (World.cell?_alloc_new w #[.pointer none] 63 0) o1) o2) o3) o4),?_⟩
  exact ((((((Below.refl _ w).alloc (Nat.le_refl _) _).alloc (by simp) _).alloc (by simp; omega) _).alloc (by simp; omega) _).alloc (by simp; omega) _).setCell (Nat.le_refl _) _
set_option maxRecDepth 100000 in
set_option maxHeartbeats 4000000 in
theorem vd (p q : Nat) (a0 e0 at0 c : Int) (w : World) (hp0 : w.cell? ⟨p,q,none⟩ = some (.int .i64 a0)) (hp1 : w.cell? ⟨p,q + 1,none⟩ = some (.iface 41 (.int .i64 e0))) (hgl : w.cell? ⟨0,0,none⟩ = some (rty 28)) :
  Calls Tryz.prog 22 #[.iface 63 (.pointer (some ⟨p,q,none⟩)),.int .i64 at0,.int .i64 c] w fun e w' => e = .returned (.bool ((e0 == c) && (a0 == at0))) ∧ Below w.heap.size w w' := by
 obtain ⟨i,hi,hcmp⟩ := Option.map_eq_some_iff.1 vK
 obtain ⟨j,hj⟩ := Option.isSome_iff_exists.1 uI
 have heq := fun w => run_eql_iface_ptr_same (P := Tryz.prog) w ⟨p,q,none⟩ Tryz.underlying28 Tryz.underlying63 hi hcmp hj
 have heqN : ∀ w,(binOp .neq 28 (.iface 63 (.pointer (some ⟨p,q,none⟩))) (.iface 63 (.pointer (some ⟨p,q,none⟩)))).run Tryz.prog w = .ok (.bool false) w := fun w => by
  simp only [binOp]
  simp [Op.equal,Op.maxDepth,run_equalIn_iface_ptr_same w 9998 ⟨p,q,none⟩ Tryz.underlying28 Tryz.underlying63 hi hcmp hj]
 have heq2 := fun (a b : Int) (w : World) => Go.Lib.run_eql_iface_int w (k := .i64) a b Tryz.underlying28 rU Tryz.underlying41
 have hAs := xZ p q w hgl
 have hpl := World.block_lt_of_cell? w ⟨p,q,none⟩ hp0
 cases hb1 : (e0 == c) <;> cases hb2 : (a0 == at0)
 all_goals
  go_enter Tryz.func22,Tryz.ntmps22
  go_wp2_with (first | (go_at_call 60; refine hAs.mono ?_; rintro e W ⟨rfl,hg,hbel⟩; have hq0 := (hbel.cell (p := ⟨p,q,none⟩) hpl).trans hp0; have hq1 := (hbel.cell (p := ⟨p,q + 1,none⟩) hpl).trans hp1; have hIs := AU p q e0 c W hq1; rw [hb1] at hIs; clear hAs hp0 hp1 hgl) | (go_at_call 61; refine hIs.mono ?_; rintro e W2 ⟨rfl,rfl⟩))
  all_goals
   go_ret
   exact ⟨rfl,hbel⟩
end Go.Proofs.YtkjnkkmokojnpaaGreatDoor

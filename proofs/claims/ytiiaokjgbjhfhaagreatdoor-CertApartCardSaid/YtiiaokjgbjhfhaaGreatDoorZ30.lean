/- trammellaw00.Is, in the world: what it says of an error that is nil, a code, a spot. errors.As and errors.Is, in the world, of an error that is a code or a spot. errors.Is of a spot, and trammellaw00.Is, in the world. trammellaw00.Is, in the world. -/
import Derived.Test.YtiiaokjgbjhfhaaGreatDoorChecked
import Derived.WalkKit
import Derived.LaidEql
import Derived.Lib.IfaceEq
import Derived.Stop.Asserts
import Derived.RowKitTokens
import Derived.Below
namespace Go.Proofs.YtiiaokjgbjhfhaaGreatDoor
set_option linter.unusedSimpArgs false
set_option linter.unusedVariables false
open Go.RowKit Go.Extern.Stop Go.Stop Go.Extern
abbrev hnd (t : Nat) : Value := .pointer (some ⟨1,t,none⟩)
abbrev rty (t : Nat) : Value := .iface 129 (.agg #[hnd t])
theorem mO (v : Value) (w : World) : (Extern.ReflectliteValue.unpack (.iface 78 v)).run Tryz.prog w = .ok (.agg #[hnd 78,.pointer (some ⟨w.heap.size,0,none⟩),.int .u64 150]) (w.alloc (.cells v.cells 78 (0,0))) := by kernel_rfl
theorem lz (v : Value) (w : World) : (Extern.ReflectliteValue.unpack (.iface 73 v)).run Tryz.prog w = .ok (.agg #[hnd 73,.pointer (some ⟨w.heap.size,0,none⟩),.int .u64 150]) (w.alloc (.cells v.cells 73 (0,0))) := by kernel_rfl
theorem qI (g : Nat) (w : World) : (Extern.ReflectliteValue.methodAny (Extern.ReflectliteValue.valueError "reflectlite.Value.Type" 0) (fun t _ _ _ => Extern.ReflectliteType.toType t) #[.agg #[hnd 78,.pointer (some ⟨g,0,none⟩),.int .u64 150]]).run Tryz.prog w = .ok (rty 78) w := by kernel_rfl
theorem eG {g : Nat} {v : Value} {w : World} {t : TypeId} (hc : w.cell? ⟨g,0,none⟩ = some v) (hagg : (isAgg t).run Tryz.prog w = .ok false w) : (loadVar t ⟨g,0,none⟩).run Tryz.prog w = .ok v w := by
 simp [loadVar,hagg,hc]
theorem po (g x : Nat) (w : World) (hc : w.cell? ⟨g,0,none⟩ = some (.pointer (some ⟨x,0,none⟩))) :
  (Extern.ReflectliteValue.method (Extern.ReflectliteValue.valueError "reflectlite.Value.IsNil" 0) Extern.ReflectliteValue.isNil #[.agg #[hnd 78,.pointer (some ⟨g,0,none⟩),.int .u64 150]]).run Tryz.prog w = .ok (.bool false) w := by
 have h1 : (Extern.ReflectliteValue.parts (.agg #[hnd 78,.pointer (some ⟨g,0,none⟩),.int .u64 150])).run Tryz.prog w = .ok (some (78,⟨g,0,none⟩,150)) w := by kernel_rfl
 have h2 := eG (t := 78) hc (by kernel_rfl)
 have e : Extern.ReflectliteValue.method (Extern.ReflectliteValue.valueError "reflectlite.Value.IsNil" 0) Extern.ReflectliteValue.isNil #[.agg #[hnd 78,.pointer (some ⟨g,0,none⟩),.int .u64 150]] =
  (Extern.ReflectliteValue.parts (.agg #[hnd 78,.pointer (some ⟨g,0,none⟩),.int .u64 150]) >>= fun o => match o with | none => Extern.ReflectliteValue.valueError "reflectlite.Value.IsNil" 0 | some (t,a,fl) => Extern.ReflectliteValue.isNil t a fl (fl % 32)) := rfl
 rw [e,Sem.run_bind,h1]
 simp [Extern.ReflectliteValue.isNil,Sem.run_bind,h2,Result.andThen]
theorem qF (g x : Nat) (w : World) (hc : w.cell? ⟨g,0,none⟩ = some (.pointer (some ⟨x,0,none⟩))) :
  (Extern.ReflectliteValue.method (Extern.ReflectliteValue.valueError "reflectlite.Value.Elem" 0) Extern.ReflectliteValue.elem #[.agg #[hnd 78,.pointer (some ⟨g,0,none⟩),.int .u64 150]]).run Tryz.prog w = .ok (.agg #[hnd 73,.pointer (some ⟨x,0,none⟩),.int .u64 406]) w := by
 have h1 : (Extern.ReflectliteValue.parts (.agg #[hnd 78,.pointer (some ⟨g,0,none⟩),.int .u64 150])).run Tryz.prog w = .ok (some (78,⟨g,0,none⟩,150)) w := by kernel_rfl
 have h2 := eG (t := 78) hc (by kernel_rfl)
 have h3 : (Rtype.elem? 78).run Tryz.prog w = .ok (some 73) w := by kernel_rfl
 have h4 : (Extern.ReflectliteValue.mk 73 ⟨x,0,none⟩ Extern.ReflectliteValue.flagAddr).run Tryz.prog w = .ok (.agg #[hnd 73,.pointer (some ⟨x,0,none⟩),.int .u64 406]) w := by kernel_rfl
 have e : Extern.ReflectliteValue.method (Extern.ReflectliteValue.valueError "reflectlite.Value.Elem" 0) Extern.ReflectliteValue.elem #[.agg #[hnd 78,.pointer (some ⟨g,0,none⟩),.int .u64 150]] =
  (Extern.ReflectliteValue.parts (.agg #[hnd 78,.pointer (some ⟨g,0,none⟩),.int .u64 150]) >>= fun o => match o with | none => Extern.ReflectliteValue.valueError "reflectlite.Value.Elem" 0 | some (t,a,fl) => Extern.ReflectliteValue.elem t a fl (fl % 32)) := rfl
 rw [e,Sem.run_bind,h1]
 simp [Extern.ReflectliteValue.elem,Sem.run_bind,h2,h3,h4,Result.andThen]
theorem rk (x b p q : Nat) (u : Value) (w : World) (hc : w.cell? ⟨b,0,none⟩ = some (.pointer (some ⟨p,q,none⟩))) (hx : w.cell? ⟨x,0,none⟩ = some u) (hfz : w.frozen? ⟨x,0,none⟩ = false) :
  (Extern.ReflectliteValue.set #[.agg #[hnd 73,.pointer (some ⟨x,0,none⟩),.int .u64 406],.agg #[hnd 73,.pointer (some ⟨b,0,none⟩),.int .u64 150]]).run Tryz.prog w = .ok (.tuple #[]) (w.setCell ⟨x,0,none⟩ (.pointer (some ⟨p,q,none⟩))) := by
 have h1 : (Extern.ReflectliteValue.parts (.agg #[hnd 73,.pointer (some ⟨x,0,none⟩),.int .u64 406])).run Tryz.prog w = .ok (some (73,⟨x,0,none⟩,406)) w := by kernel_rfl
 have h1' : (Extern.ReflectliteValue.parts (.agg #[hnd 73,.pointer (some ⟨b,0,none⟩),.int .u64 150])).run Tryz.prog w = .ok (some (73,⟨b,0,none⟩,150)) w := by kernel_rfl
 have h2 := eG (t := 73) hc (by kernel_rfl)
 have h3 : (Rtype.directlyAssignable 73 73).run Tryz.prog w = .ok true w := by kernel_rfl
 have h4 : (storeVar 73 ⟨x,0,none⟩ (.pointer (some ⟨p,q,none⟩))).run Tryz.prog w = .ok () (w.setCell ⟨x,0,none⟩ (.pointer (some ⟨p,q,none⟩))) := by
  have hagg : (isAgg 73).run Tryz.prog w = .ok false w := by kernel_rfl
  simp [storeVar,hagg,storeCells,Value.cells,Addr.add]
  rw [run_store _ _ _ _ _ rfl,hx]
  simp [hfz]
 show ((Extern.ReflectliteValue.parts (.agg #[hnd 73,.pointer (some ⟨x,0,none⟩),.int .u64 406]) >>= fun o1 => Extern.ReflectliteValue.parts (.agg #[hnd 73,.pointer (some ⟨b,0,none⟩),.int .u64 150]) >>= fun o2 => _) : Sem Value).run _ w = _
 rw [Sem.run_bind,h1]
 simp only [Result.andThen]
 rw [Sem.run_bind,h1']
 simp [Sem.run_bind,h2,h3,h4,Result.andThen,Extern.ReflectliteValue.flagAddr]
theorem pr (n : Nat) (v : Value) (w : World) : (Go.method (n + 1) 129 (.agg #[v]) "Kind").run Tryz.prog w = .ok (139,v) w := by kernel_rfl
theorem pm (n : Nat) (v : Value) (w : World) : (Go.method (n + 1) 129 (.agg #[v]) "Elem").run Tryz.prog w = .ok (151,.agg #[v]) w := by kernel_rfl
theorem pn (n : Nat) (v : Value) (w : World) : (Go.method (n + 1) 129 (.agg #[v]) "Implements").run Tryz.prog w = .ok (152,.agg #[v]) w := by kernel_rfl
theorem qC (n : Nat) (v : Value) (w : World) : (Go.method (n + 1) 129 (.agg #[v]) "AssignableTo").run Tryz.prog w = .ok (149,.agg #[v]) w := by kernel_rfl
theorem pk (n : Nat) (v : Value) (w : World) : (Go.method (n + 1) 129 (.agg #[v]) "Comparable").run Tryz.prog w = .ok (150,.agg #[v]) w := by kernel_rfl
theorem pp (w : World) : (Extern.ReflectliteType.abiMethod (fun t => (fun a : Nat => Value.int .u8 (a : Int)) <$> Rtype.kind t) #[hnd 78]).run Tryz.prog w = .ok (.int .u8 22) w := by kernel_rfl
theorem pq (w : World) : (Extern.ReflectliteType.abiMethod (fun t => (fun a : Nat => Value.int .u8 (a : Int)) <$> Rtype.kind t) #[hnd 73]).run Tryz.prog w = .ok (.int .u8 22) w := by kernel_rfl
theorem px (w : World) : (Extern.ReflectliteType.method Extern.ReflectliteType.elem #[.agg #[hnd 78]]).run Tryz.prog w = .ok (rty 73) w := by kernel_rfl
theorem qG (w : World) : (Extern.ReflectliteType.relation "Implements" Extern.ReflectliteType.implements_ #[.agg #[hnd 73],rty 26]).run Tryz.prog w = .ok (.bool true) w := by kernel_rfl
theorem qD (w : World) : (Extern.ReflectliteType.relation "AssignableTo" Extern.ReflectliteType.assignableTo #[.agg #[hnd 73],rty 73]).run Tryz.prog w = .ok (.bool true) w := by kernel_rfl
theorem kN (t : TypeId) (v : Value) (w : World) : (Extern.ReflectliteType.typeOf #[.iface t v]).run Tryz.prog w = .ok (rty t) w := by kernel_rfl
theorem qE (w : World) : (Extern.ReflectliteType.method (fun t => do Rtype.noPackHeld "Comparable" t;(fun a => Value.bool a.comparable) <$> typeInfo t) #[.agg #[hnd 49]]).run Tryz.prog w = .ok (.bool true) w := by kernel_rfl
end Go.Proofs.YtiiaokjgbjhfhaaGreatDoor
namespace Go.Proofs.YtiiaokjgbjhfhaaGreatDoor
set_option linter.unusedSimpArgs false
set_option linter.unusedVariables false
open Go.RowKit Go.Extern.Stop Go.Stop Go.Extern
theorem fk {w : World} {b o : Nat} {v : Value} (h : w.cell? ⟨b,o,none⟩ = some v) (o1 : Obj) : (w.alloc o1).cell? ⟨b,o,none⟩ = some v := (World.cell?_alloc_lt w o1 ⟨b,o,none⟩ (World.block_lt_of_cell? w ⟨b,o,none⟩ h)).trans h
theorem om {w : World} {b o : Nat} {v : Value} (h : w.cell? ⟨b,o,none⟩ = some v) {o1 : Obj} : (w.alloc o1).frozen? ⟨b,o,none⟩ = w.frozen? ⟨b,o,none⟩ := by
 have := World.block_lt_of_cell? w ⟨b,o,none⟩ h
 exact World.frozen?_of_block (by show (w.heap.push o1)[b]? = _;rw [Array.getElem?_push,if_neg (by simp only at this;omega)])
theorem qH (v : Value) (xT : TypeId) (w : World) : (Instr.typeAssert (.iface 49 v) xT 141 true).run Tryz.prog w = .ok (.tuple #[.nilIface,.bool false]) w := run_typeAssert_lacksB Tryz.underlying141 (by kernel_rfl) (by kernel_rfl) v xT w
theorem pw (v : Value) (xT : TypeId) (w : World) : (Instr.typeAssert (.iface 49 v) xT 136 true).run Tryz.prog w = .ok (.tuple #[.nilIface,.bool false]) w := run_typeAssert_lacksB Tryz.underlying136 (by kernel_rfl) (by kernel_rfl) v xT w
theorem nS (v : Value) (xT : TypeId) (w : World) : (Instr.typeAssert (.iface 49 v) xT 138 true).run Tryz.prog w = .ok (.tuple #[.nilIface,.bool false]) w := run_typeAssert_lacksB Tryz.underlying138 (by kernel_rfl) (by kernel_rfl) v xT w
theorem pt (v : Value) (xT : TypeId) (w : World) : (Instr.typeAssert (.iface 73 v) xT 141 true).run Tryz.prog w = .ok (.tuple #[.nilIface,.bool false]) w := run_typeAssert_lacksB Tryz.underlying141 (by kernel_rfl) (by kernel_rfl) v xT w
theorem mN (v : Value) (xT : TypeId) (w : World) : (Instr.typeAssert (.iface 73 v) xT 136 true).run Tryz.prog w = .ok (.tuple #[.iface 73 v,.bool true]) w := run_typeAssert_hasB Tryz.underlying136 (by kernel_rfl) v xT w
theorem qJ (n : Nat) (v : Value) (w : World) : (Go.method (n + 1) 73 v "Unwrap").run Tryz.prog w = .ok (144,v) w := by kernel_rfl
set_option maxRecDepth 100000 in
set_option maxHeartbeats 4000000 in
theorem nY (p q g : Nat) (w : World) (hg : w.cell? ⟨g,0,none⟩ = some (.pointer none)) (hfz : w.frozen? ⟨g,0,none⟩ = false) (hgl : w.cell? ⟨0,0,none⟩ = some (rty 26)) :
  Calls Tryz.prog 29 #[.iface 73 (.pointer (some ⟨p,q,none⟩)),.iface 78 (.pointer (some ⟨g,0,none⟩))] w fun e w' => e = .returned (.bool true) ∧ ∃ o1 o2 o3 o4,w' = ((((w.alloc o1).alloc o2).alloc o3).alloc o4).setCell ⟨g,0,none⟩ (.pointer (some ⟨p,q,none⟩)) := by
 have h33 := @run_callFunc_extern Tryz.prog 48 _ (fun args => Extern.ReflectliteValue.unpack (args.getD 0 (.tuple #[]))) Tryz.func48 (by kernel_rfl) (by kernel_rfl) (by kernel_rfl) (by kernel_rfl)
 have h34 := @run_callFunc_extern Tryz.prog 49 _ (Extern.ReflectliteValue.methodAny (Extern.ReflectliteValue.valueError "reflectlite.Value.Type" 0) (fun t _ _ _ => Extern.ReflectliteType.toType t)) Tryz.func49 (by kernel_rfl) (by kernel_rfl) (by kernel_rfl) (by kernel_rfl)
 have h62 := @run_callFunc_extern Tryz.prog 139 _ (Extern.ReflectliteType.abiMethod (fun t => do pure (.int .u8 (← Rtype.kind t)))) Tryz.func139 (by kernel_rfl) (by kernel_rfl) (by kernel_rfl) (by kernel_rfl)
 have h35 := @run_callFunc_extern Tryz.prog 50 _ (Extern.ReflectliteValue.method (Extern.ReflectliteValue.valueError "reflectlite.Value.IsNil" 0) Extern.ReflectliteValue.isNil) Tryz.func50 (by kernel_rfl) (by kernel_rfl) (by kernel_rfl) (by kernel_rfl)
 have h41 := @run_callFunc_extern Tryz.prog 74 _ (Extern.ReflectliteValue.method (Extern.ReflectliteValue.valueError "reflectlite.Value.Elem" 0) Extern.ReflectliteValue.elem) Tryz.func74 (by kernel_rfl) (by kernel_rfl) (by kernel_rfl) (by kernel_rfl)
 have h42 := @run_callFunc_extern Tryz.prog 75 _ Extern.ReflectliteValue.set Tryz.func75 (by kernel_rfl) (by kernel_rfl) (by kernel_rfl) (by kernel_rfl)
 have hEl := @run_callFunc_extern Tryz.prog 151 _ (Extern.ReflectliteType.method Extern.ReflectliteType.elem) Tryz.func151 (by kernel_rfl) (by kernel_rfl) (by kernel_rfl) (by kernel_rfl)
 have hIm := @run_callFunc_extern Tryz.prog 152 _ (Extern.ReflectliteType.relation "Implements" Extern.ReflectliteType.implements_) Tryz.func152 (by kernel_rfl) (by kernel_rfl) (by kernel_rfl) (by kernel_rfl)
 have hAs := @run_callFunc_extern Tryz.prog 149 _ (Extern.ReflectliteType.relation "AssignableTo" Extern.ReflectliteType.assignableTo) Tryz.func149 (by kernel_rfl) (by kernel_rfl) (by kernel_rfl) (by kernel_rfl)
 have hTo := @run_callFunc_extern Tryz.prog 52 _ Extern.ReflectliteType.typeOf Tryz.func52 (by kernel_rfl) (by kernel_rfl) (by kernel_rfl) (by kernel_rfl)
 have e1 := mO
 have e2 := lz
 have e3 := qI
 have e4 := pr
 have e5 := pm
 have e6 := pn
 have e7 := qC
 have e8 := pp
 have e9 := pq
 have e10 := px
 have e11 := qG
 have e12 := qD
 have e13 := kN
 have e14 := po
 have g2 := fun o1 o2 => fk (fk hgl o1) o2
 have e15 := fun o2 o3 => qF w.heap.size g (((w.alloc (.cells #[.pointer (some ⟨g,0,none⟩)] 78 (0,0))).alloc o2).alloc o3) (fk (fk (World.cell?_alloc_new w #[.pointer (some ⟨g,0,none⟩)] 78 0) o2) o3)
 have e16 := fun o1 o2 o3 => rk g (w.heap.size + 1 + 1 + 1) p q (.pointer none) ((((w.alloc o1).alloc o2).alloc o3).alloc (.cells #[.pointer (some ⟨p,q,none⟩)] 73 (0,0))) (by simpa using World.cell?_alloc_new (((w.alloc o1).alloc o2).alloc o3) #[.pointer (some ⟨p,q,none⟩)] 73 0) (fk (fk (fk (fk hg o1) o2) o3) _) (by
  rw [om (fk (fk (fk hg o1) o2) o3),om (fk (fk hg o1) o2),om (fk hg o1),om hg];exact hfz)
 clear hgl
 go_enter Tryz.func29,Tryz.ntmps29
 go_wp2
 refine wp_loop_rounds 1 ?_
 rw [rounds_succ]
 go_wp2
 go_ret
 exact ⟨rfl,_,_,_,_,rfl⟩
end Go.Proofs.YtiiaokjgbjhfhaaGreatDoor
namespace Go.Proofs.YtiiaokjgbjhfhaaGreatDoor
set_option linter.unusedSimpArgs false
set_option linter.unusedVariables false
open Go.RowKit Go.Extern.Stop Go.Stop Go.Extern
theorem jr : (Tryz.prog.info? 49).map (fun i => i.comparable) = some true := by kernel_rfl
set_option maxRecDepth 100000 in
set_option maxHeartbeats 4000000 in
theorem ov (p q : Nat) (e0 c : Int) (w : World) (hp : w.cell? ⟨p,q + 1,none⟩ = some (.iface 49 (.int .i64 e0))) :
  Calls Tryz.prog 30 #[.iface 73 (.pointer (some ⟨p,q,none⟩)),.iface 49 (.int .i64 c)] w fun e w' => e = .returned (.bool (e0 == c)) ∧ w' = w := by
 have hTo := @run_callFunc_extern Tryz.prog 52 _ Extern.ReflectliteType.typeOf Tryz.func52 (by kernel_rfl) (by kernel_rfl) (by kernel_rfl) (by kernel_rfl)
 have hCo := @run_callFunc_extern Tryz.prog 150 _ (Extern.ReflectliteType.method fun t => do Rtype.noPackHeld "Comparable" t;pure (.bool (← typeInfo t).comparable)) Tryz.func150 (by kernel_rfl) (by kernel_rfl) (by kernel_rfl) (by kernel_rfl)
 have e1 := kN
 have e2 := pk
 have e3 := qE
 have e4 := pt
 have e5 := mN
 have e6 := qJ
 have e7 := qH
 have e8 := pw
 have e9 := nS
 have hty := run_eql_iface_types (P := Tryz.prog) 73 49 (.pointer (some ⟨p,q,none⟩)) (.int .i64 c) Tryz.underlying26 (by decide) w
 have heq := fun (a b : Int) (w : World) => Go.Lib.run_eql_iface_int w (k := .i64) a b Tryz.underlying26 jr Tryz.underlying49
 by_cases h : e0 = c
 ·subst h
  have hb : (e0 == e0) = true := by simp
  go_enter Tryz.func30,Tryz.ntmps30
  go_wp2
  refine wp_loop_rounds 2 ?_
  rw [rounds_succ]
  go_wp2
  rw [rounds_succ]
  go_wp2
  go_ret
  exact ⟨by rw [hb];rfl,rfl⟩
 ·have hb : (e0 == c) = false := by simpa using h
  go_enter Tryz.func30,Tryz.ntmps30
  go_wp2
  refine wp_loop_rounds 2 ?_
  rw [rounds_succ]
  go_wp2
  rw [rounds_succ]
  go_wp2
  go_ret
  exact ⟨by rw [hb];rfl,rfl⟩
end Go.Proofs.YtiiaokjgbjhfhaaGreatDoor
namespace Go.Proofs.YtiiaokjgbjhfhaaGreatDoor
set_option linter.unusedSimpArgs false
set_option linter.unusedVariables false
open Go.RowKit Go.Extern.Stop Go.Stop Go.Extern
theorem ly : (Tryz.prog.info? 73).map (fun i => i.comparable) = some true := by kernel_rfl
theorem kM : (Tryz.prog.info? 75).isSome = true := by kernel_rfl
theorem oo (w : World) (c : Array Value) (t : TypeId) : (w.alloc (.cells c t (0,0))).frozen? ⟨w.heap.size,0,none⟩ = false := by
 exact World.frozen?_alloc_new w c t 0
theorem mX (p q : Nat) (w : World) (hgl : w.cell? ⟨0,0,none⟩ = some (rty 26)) :
  Calls Tryz.prog 29 #[.iface 73 (.pointer (some ⟨p,q,none⟩)),.iface 78 (.pointer (some ⟨w.heap.size,0,none⟩))] (w.alloc (.cells #[.pointer none] 73 (0,0))) fun e w' => e = .returned (.bool true) ∧ w'.cell? ⟨w.heap.size,0,none⟩ = some (.pointer (some ⟨p,q,none⟩)) ∧ Below w.heap.size w w' :=
 (nY p q w.heap.size _ (World.cell?_alloc_new w #[.pointer none] _ 0) (oo w _ _) (fk hgl _)).mono fun e w' ⟨he,o1,o2,o3,o4,hw⟩ => by
  subst hw
  refine ⟨he,World.cell?_setCell_same _ _ _ (fk (fk (fk (fk (World.cell?_alloc_new w #[.pointer none] 73 0) o1) o2) o3) o4),?_⟩
  exact ((((((Below.refl _ w).alloc (Nat.le_refl _) _).alloc (by simp) _).alloc (by simp;omega) _).alloc (by simp;omega) _).alloc (by simp;omega) _).setCell (Nat.le_refl _) _
set_option maxRecDepth 100000 in
set_option maxHeartbeats 4000000 in
theorem k7 (p q : Nat) (a0 e0 at0 c : Int) (w : World) (hp0 : w.cell? ⟨p,q,none⟩ = some (.int .i64 a0)) (hp1 : w.cell? ⟨p,q + 1,none⟩ = some (.iface 49 (.int .i64 e0))) (hgl : w.cell? ⟨0,0,none⟩ = some (rty 26)) :
  Calls Tryz.prog 12 #[.iface 73 (.pointer (some ⟨p,q,none⟩)),.int .i64 at0,.int .i64 c] w fun e w' => e = .returned (.bool ((e0 == c) && (a0 == at0))) ∧ Below w.heap.size w w' := by
 obtain ⟨i,hi,hcmp⟩ := Option.map_eq_some_iff.1 ly
 obtain ⟨j,hj⟩ := Option.isSome_iff_exists.1 kM
 have heq := fun w => run_eql_iface_ptr_same (P := Tryz.prog) w ⟨p,q,none⟩ Tryz.underlying26 Tryz.underlying73 hi hcmp hj
 have heqN : ∀ w,(binOp .neq 26 (.iface 73 (.pointer (some ⟨p,q,none⟩))) (.iface 73 (.pointer (some ⟨p,q,none⟩)))).run Tryz.prog w = .ok (.bool false) w := fun w => by
  simp only [binOp]
  simp [Op.equal,Op.maxDepth,run_equalIn_iface_ptr_same w 9998 ⟨p,q,none⟩ Tryz.underlying26 Tryz.underlying73 hi hcmp hj]
 have heq2 := fun (a b : Int) (w : World) => Go.Lib.run_eql_iface_int w (k := .i64) a b Tryz.underlying26 jr Tryz.underlying49
 have hAs := mX p q w hgl
 have hpl := World.block_lt_of_cell? w ⟨p,q,none⟩ hp0
 cases hb1 : (e0 == c) <;> cases hb2 : (a0 == at0)
 all_goals
  go_enter Tryz.func12,Tryz.ntmps12
  go_wp2_with (first | (go_at_call 29;refine hAs.mono ?_;rintro e W ⟨rfl,hg,hbel⟩;have hq0 := (hbel.cell (p := ⟨p,q,none⟩) hpl).trans hp0;have hq1 := (hbel.cell (p := ⟨p,q + 1,none⟩) hpl).trans hp1;have hIs := ov p q e0 c W hq1;rw [hb1] at hIs;clear hAs hp0 hp1 hgl) | (go_at_call 30;refine hIs.mono ?_;rintro e W2 ⟨rfl,rfl⟩))
  all_goals
   go_ret
   exact ⟨rfl,hbel⟩
end Go.Proofs.YtiiaokjgbjhfhaaGreatDoor

/- trammellaw00.Is, in the world: what it says of an error that is nil, a code, a spot. errors.As and errors.Is, in the world, of an error that is a code or a spot. errors.Is of a spot, and trammellaw00.Is, in the world. trammellaw00.Is, in the world. trammellaw00.Is and Told, in K. errors.As into a variable of one's own, in K. -/
import Derived.Test.YtmpdocplcgbpkaaGreatDoorChecked
import Derived.WalkKit
import Derived.LaidEql
import Derived.Lib.IfaceEq
import Derived.Stop.Asserts
import Derived.RowKitTokens
import Derived.Below
import Derived.Test.YtmpdocplcgbpkaaGreatDoorZ8
import Derived.Test.YtmpdocplcgbpkaaGreatDoorZ7
namespace Go.Proofs.YtmpdocplcgbpkaaGreatDoor
set_option linter.unusedSimpArgs false
set_option linter.unusedVariables false
open Go.RowKit Go.Extern.Stop Go.Stop Go.Extern
abbrev hnd (t : Nat) : Value:=.pointer (some ⟨1,t,none⟩)
abbrev rty (t : Nat) : Value:=.iface 158 (.agg #[hnd t])
theorem oG (v : Value) (w : World) : (Extern.ReflectliteValue.unpack (.iface 79 v)).run Tryz.prog w = .ok (.agg #[hnd 79,.pointer (some ⟨w.heap.size,0,none⟩),.int .u64 150]) (w.alloc (.cells v.cells 79 (0,0))):=by kernel_rfl
theorem np (v : Value) (w : World) : (Extern.ReflectliteValue.unpack (.iface 61 v)).run Tryz.prog w = .ok (.agg #[hnd 61,.pointer (some ⟨w.heap.size,0,none⟩),.int .u64 150]) (w.alloc (.cells v.cells 61 (0,0))):=by kernel_rfl
theorem xv (g : Nat) (w : World) : (Extern.ReflectliteValue.methodAny (Extern.ReflectliteValue.valueError "reflectlite.Value.Type" 0) (fun t _ _ _=>Extern.ReflectliteType.toType t) #[.agg #[hnd 79,.pointer (some ⟨g,0,none⟩),.int .u64 150]]).run Tryz.prog w = .ok (rty 79) w:=by kernel_rfl
theorem hI {g : Nat} {v : Value} {w : World} {t : TypeId} (hc : w.cell? ⟨g,0,none⟩ = some v) (hagg : (isAgg t).run Tryz.prog w = .ok false w) : (loadVar t ⟨g,0,none⟩).run Tryz.prog w = .ok v w:=by
 simp [loadVar,hagg,hc]
theorem tZ (g x : Nat) (w : World) (hc : w.cell? ⟨g,0,none⟩ = some (.pointer (some ⟨x,0,none⟩))) :
  (Extern.ReflectliteValue.method (Extern.ReflectliteValue.valueError "reflectlite.Value.IsNil" 0) Extern.ReflectliteValue.isNil #[.agg #[hnd 79,.pointer (some ⟨g,0,none⟩),.int .u64 150]]).run Tryz.prog w = .ok (.bool false) w:=by
 have h1 : (Extern.ReflectliteValue.parts (.agg #[hnd 79,.pointer (some ⟨g,0,none⟩),.int .u64 150])).run Tryz.prog w = .ok (some (79,⟨g,0,none⟩,150)) w:=by kernel_rfl
 have h2:=hI (t:=79) hc (by kernel_rfl)
 have e : Extern.ReflectliteValue.method (Extern.ReflectliteValue.valueError "reflectlite.Value.IsNil" 0) Extern.ReflectliteValue.isNil #[.agg #[hnd 79,.pointer (some ⟨g,0,none⟩),.int .u64 150]] =
  (Extern.ReflectliteValue.parts (.agg #[hnd 79,.pointer (some ⟨g,0,none⟩),.int .u64 150]) >>= fun o=>match o with | none=>Extern.ReflectliteValue.valueError "reflectlite.Value.IsNil" 0 | some (t,a,fl)=>Extern.ReflectliteValue.isNil t a fl (fl % 32)):=rfl
 rw [e,Sem.run_bind,h1]
 simp [Extern.ReflectliteValue.isNil,Sem.run_bind,h2,Result.andThen]
theorem Bg (g x : Nat) (w : World) (hc : w.cell? ⟨g,0,none⟩ = some (.pointer (some ⟨x,0,none⟩))) :
  (Extern.ReflectliteValue.method (Extern.ReflectliteValue.valueError "reflectlite.Value.Elem" 0) Extern.ReflectliteValue.elem #[.agg #[hnd 79,.pointer (some ⟨g,0,none⟩),.int .u64 150]]).run Tryz.prog w = .ok (.agg #[hnd 61,.pointer (some ⟨x,0,none⟩),.int .u64 406]) w:=by
 have h1 : (Extern.ReflectliteValue.parts (.agg #[hnd 79,.pointer (some ⟨g,0,none⟩),.int .u64 150])).run Tryz.prog w = .ok (some (79,⟨g,0,none⟩,150)) w:=by kernel_rfl
 have h2:=hI (t:=79) hc (by kernel_rfl)
 have h3 : (Rtype.elem? 79).run Tryz.prog w = .ok (some 61) w:=by kernel_rfl
 have h4 : (Extern.ReflectliteValue.mk 61 ⟨x,0,none⟩ Extern.ReflectliteValue.flagAddr).run Tryz.prog w = .ok (.agg #[hnd 61,.pointer (some ⟨x,0,none⟩),.int .u64 406]) w:=by kernel_rfl
 have e : Extern.ReflectliteValue.method (Extern.ReflectliteValue.valueError "reflectlite.Value.Elem" 0) Extern.ReflectliteValue.elem #[.agg #[hnd 79,.pointer (some ⟨g,0,none⟩),.int .u64 150]] =
  (Extern.ReflectliteValue.parts (.agg #[hnd 79,.pointer (some ⟨g,0,none⟩),.int .u64 150]) >>= fun o=>match o with | none=>Extern.ReflectliteValue.valueError "reflectlite.Value.Elem" 0 | some (t,a,fl)=>Extern.ReflectliteValue.elem t a fl (fl % 32)):=rfl
 rw [e,Sem.run_bind,h1]
 simp [Extern.ReflectliteValue.elem,Sem.run_bind,h2,h3,h4,Result.andThen]
theorem BH (x b p q : Nat) (u : Value) (w : World) (hc : w.cell? ⟨b,0,none⟩ = some (.pointer (some ⟨p,q,none⟩))) (hx : w.cell? ⟨x,0,none⟩ = some u) (hfz : w.frozen? ⟨x,0,none⟩ = false) :
  (Extern.ReflectliteValue.set #[.agg #[hnd 61,.pointer (some ⟨x,0,none⟩),.int .u64 406],.agg #[hnd 61,.pointer (some ⟨b,0,none⟩),.int .u64 150]]).run Tryz.prog w = .ok (.tuple #[]) (w.setCell ⟨x,0,none⟩ (.pointer (some ⟨p,q,none⟩))):=by
 have h1 : (Extern.ReflectliteValue.parts (.agg #[hnd 61,.pointer (some ⟨x,0,none⟩),.int .u64 406])).run Tryz.prog w = .ok (some (61,⟨x,0,none⟩,406)) w:=by kernel_rfl
 have h1' : (Extern.ReflectliteValue.parts (.agg #[hnd 61,.pointer (some ⟨b,0,none⟩),.int .u64 150])).run Tryz.prog w = .ok (some (61,⟨b,0,none⟩,150)) w:=by kernel_rfl
 have h2:=hI (t:=61) hc (by kernel_rfl)
 have h3 : (Rtype.directlyAssignable 61 61).run Tryz.prog w = .ok true w:=by kernel_rfl
 have h4 : (storeVar 61 ⟨x,0,none⟩ (.pointer (some ⟨p,q,none⟩))).run Tryz.prog w = .ok () (w.setCell ⟨x,0,none⟩ (.pointer (some ⟨p,q,none⟩))):=by
  have hagg : (isAgg 61).run Tryz.prog w = .ok false w:=by kernel_rfl
  simp [storeVar,hagg,storeCells,Value.cells,Addr.add]
  rw [run_store _ _ _ _ _ rfl,hx]
  simp [hfz]
 show ((Extern.ReflectliteValue.parts (.agg #[hnd 61,.pointer (some ⟨x,0,none⟩),.int .u64 406]) >>= fun o1=>Extern.ReflectliteValue.parts (.agg #[hnd 61,.pointer (some ⟨b,0,none⟩),.int .u64 150]) >>= fun o2=>_) : Sem Value).run _ w = _
 rw [Sem.run_bind,h1]
 simp only [Result.andThen]
 rw [Sem.run_bind,h1']
 simp [Sem.run_bind,h2,h3,h4,Result.andThen,Extern.ReflectliteValue.flagAddr]
theorem t8 (n : Nat) (v : Value) (w : World) : (Go.method (n + 1) 158 (.agg #[v]) "Kind").run Tryz.prog w = .ok (176,v) w:=by kernel_rfl
theorem tX (n : Nat) (v : Value) (w : World) : (Go.method (n + 1) 158 (.agg #[v]) "Elem").run Tryz.prog w = .ok (188,.agg #[v]) w:=by kernel_rfl
theorem tY (n : Nat) (v : Value) (w : World) : (Go.method (n + 1) 158 (.agg #[v]) "Implements").run Tryz.prog w = .ok (189,.agg #[v]) w:=by kernel_rfl
theorem xr (n : Nat) (v : Value) (w : World) : (Go.method (n + 1) 158 (.agg #[v]) "AssignableTo").run Tryz.prog w = .ok (186,.agg #[v]) w:=by kernel_rfl
theorem zL (n : Nat) (v : Value) (w : World) : (Go.method (n + 1) 158 (.agg #[v]) "Comparable").run Tryz.prog w = .ok (187,.agg #[v]) w:=by kernel_rfl
theorem t6 (w : World) : (Extern.ReflectliteType.abiMethod (fun t=>(fun a : Nat=>Value.int .u8 (a : Int)) <$> Rtype.kind t) #[hnd 79]).run Tryz.prog w = .ok (.int .u8 22) w:=by kernel_rfl
theorem t7 (w : World) : (Extern.ReflectliteType.abiMethod (fun t=>(fun a : Nat=>Value.int .u8 (a : Int)) <$> Rtype.kind t) #[hnd 61]).run Tryz.prog w = .ok (.int .u8 22) w:=by kernel_rfl
theorem ub (w : World) : (Extern.ReflectliteType.method Extern.ReflectliteType.elem #[.agg #[hnd 79]]).run Tryz.prog w = .ok (rty 61) w:=by kernel_rfl
theorem xu (w : World) : (Extern.ReflectliteType.relation "Implements" Extern.ReflectliteType.implements_ #[.agg #[hnd 61],rty 35]).run Tryz.prog w = .ok (.bool true) w:=by kernel_rfl
theorem xt (w : World) : (Extern.ReflectliteType.relation "AssignableTo" Extern.ReflectliteType.assignableTo #[.agg #[hnd 61],rty 61]).run Tryz.prog w = .ok (.bool true) w:=by kernel_rfl
theorem Be (w : World) : (Extern.ReflectliteType.relation "AssignableTo" Extern.ReflectliteType.assignableTo #[.agg #[hnd 50],rty 61]).run Tryz.prog w = .ok (.bool false) w:=by kernel_rfl
theorem nn (t : TypeId) (v : Value) (w : World) : (Extern.ReflectliteType.typeOf #[.iface t v]).run Tryz.prog w = .ok (rty t) w:=by kernel_rfl
theorem Bf (w : World) : (Extern.ReflectliteType.method (fun t=>do Rtype.noPackHeld "Comparable" t;(fun a=>Value.bool a.comparable) <$> typeInfo t) #[.agg #[hnd 50]]).run Tryz.prog w = .ok (.bool true) w:=by kernel_rfl
end Go.Proofs.YtmpdocplcgbpkaaGreatDoor
namespace Go.Proofs.YtmpdocplcgbpkaaGreatDoor
set_option linter.unusedSimpArgs false
set_option linter.unusedVariables false
open Go.RowKit Go.Extern.Stop Go.Stop Go.Extern
theorem g9 {w : World} {b o : Nat} {v : Value} (h : w.cell? ⟨b,o,none⟩ = some v) (o1 : Obj) : (w.alloc o1).cell? ⟨b,o,none⟩ = some v:=(World.cell?_alloc_lt w o1 ⟨b,o,none⟩ (World.block_lt_of_cell? w ⟨b,o,none⟩ h)).trans h
theorem x5 {w : World} {b o : Nat} {v : Value} (h : w.cell? ⟨b,o,none⟩ = some v) {o1 : Obj} : (w.alloc o1).frozen? ⟨b,o,none⟩ = w.frozen? ⟨b,o,none⟩:=by
 have:=World.block_lt_of_cell? w ⟨b,o,none⟩ h
 exact World.frozen?_of_block (by show (w.heap.push o1)[b]? = _;rw [Array.getElem?_push,if_neg (by simp only at this;omega)])
theorem Bh (v : Value) (xT : TypeId) (w : World) : (Instr.typeAssert (.iface 50 v) xT 162 true).run Tryz.prog w = .ok (.tuple #[.nilIface,.bool false]) w:=run_typeAssert_lacksB Tryz.underlying162 (by kernel_rfl) (by kernel_rfl) v xT w
theorem Bi (v : Value) (xT : TypeId) (w : World) : (Instr.typeAssert (.iface 50 v) xT 170 true).run Tryz.prog w = .ok (.tuple #[.nilIface,.bool false]) w:=run_typeAssert_lacksB Tryz.underlying170 (by kernel_rfl) (by kernel_rfl) v xT w
theorem ua (v : Value) (xT : TypeId) (w : World) : (Instr.typeAssert (.iface 50 v) xT 165 true).run Tryz.prog w = .ok (.tuple #[.nilIface,.bool false]) w:=run_typeAssert_lacksB Tryz.underlying165 (by kernel_rfl) (by kernel_rfl) v xT w
theorem rH (v : Value) (xT : TypeId) (w : World) : (Instr.typeAssert (.iface 50 v) xT 167 true).run Tryz.prog w = .ok (.tuple #[.nilIface,.bool false]) w:=run_typeAssert_lacksB Tryz.underlying167 (by kernel_rfl) (by kernel_rfl) v xT w
theorem zM (v : Value) (xT : TypeId) (w : World) : (Instr.typeAssert (.iface 61 v) xT 170 true).run Tryz.prog w = .ok (.tuple #[.nilIface,.bool false]) w:=run_typeAssert_lacksB Tryz.underlying170 (by kernel_rfl) (by kernel_rfl) v xT w
theorem vu (v : Value) (xT : TypeId) (w : World) : (Instr.typeAssert (.iface 61 v) xT 165 true).run Tryz.prog w = .ok (.tuple #[.iface 61 v,.bool true]) w:=run_typeAssert_hasB Tryz.underlying165 (by kernel_rfl) v xT w
theorem Bj (n : Nat) (v : Value) (w : World) : (Go.method (n + 1) 61 v "Unwrap").run Tryz.prog w = .ok (181,v) w:=by kernel_rfl
set_option maxRecDepth 100000 in
set_option maxHeartbeats 4000000 in
theorem ta (p q g : Nat) (w : World) (hg : w.cell? ⟨g,0,none⟩ = some (.pointer none)) (hfz : w.frozen? ⟨g,0,none⟩ = false) (hgl : w.cell? ⟨0,0,none⟩ = some (rty 35)) :
  Calls Tryz.prog 31 #[.iface 61 (.pointer (some ⟨p,q,none⟩)),.iface 79 (.pointer (some ⟨g,0,none⟩))] w fun e w'=>e = .returned (.bool true)∧∃ o1 o2 o3 o4,w' = ((((w.alloc o1).alloc o2).alloc o3).alloc o4).setCell ⟨g,0,none⟩ (.pointer (some ⟨p,q,none⟩)):=by
 have h33:=@run_callFunc_extern Tryz.prog 63 _ (fun args=>Extern.ReflectliteValue.unpack (args.getD 0 (.tuple #[]))) Tryz.func63 (by kernel_rfl) (by kernel_rfl) (by kernel_rfl) (by kernel_rfl)
 have h34:=@run_callFunc_extern Tryz.prog 64 _ (Extern.ReflectliteValue.methodAny (Extern.ReflectliteValue.valueError "reflectlite.Value.Type" 0) (fun t _ _ _=>Extern.ReflectliteType.toType t)) Tryz.func64 (by kernel_rfl) (by kernel_rfl) (by kernel_rfl) (by kernel_rfl)
 have h62:=@run_callFunc_extern Tryz.prog 176 _ (Extern.ReflectliteType.abiMethod (fun t=>do pure (.int .u8 (← Rtype.kind t)))) Tryz.func176 (by kernel_rfl) (by kernel_rfl) (by kernel_rfl) (by kernel_rfl)
 have h35:=@run_callFunc_extern Tryz.prog 65 _ (Extern.ReflectliteValue.method (Extern.ReflectliteValue.valueError "reflectlite.Value.IsNil" 0) Extern.ReflectliteValue.isNil) Tryz.func65 (by kernel_rfl) (by kernel_rfl) (by kernel_rfl) (by kernel_rfl)
 have h41:=@run_callFunc_extern Tryz.prog 102 _ (Extern.ReflectliteValue.method (Extern.ReflectliteValue.valueError "reflectlite.Value.Elem" 0) Extern.ReflectliteValue.elem) Tryz.func102 (by kernel_rfl) (by kernel_rfl) (by kernel_rfl) (by kernel_rfl)
 have h42:=@run_callFunc_extern Tryz.prog 103 _ Extern.ReflectliteValue.set Tryz.func103 (by kernel_rfl) (by kernel_rfl) (by kernel_rfl) (by kernel_rfl)
 have hEl:=@run_callFunc_extern Tryz.prog 188 _ (Extern.ReflectliteType.method Extern.ReflectliteType.elem) Tryz.func188 (by kernel_rfl) (by kernel_rfl) (by kernel_rfl) (by kernel_rfl)
 have hIm:=@run_callFunc_extern Tryz.prog 189 _ (Extern.ReflectliteType.relation "Implements" Extern.ReflectliteType.implements_) Tryz.func189 (by kernel_rfl) (by kernel_rfl) (by kernel_rfl) (by kernel_rfl)
 have hAs:=@run_callFunc_extern Tryz.prog 186 _ (Extern.ReflectliteType.relation "AssignableTo" Extern.ReflectliteType.assignableTo) Tryz.func186 (by kernel_rfl) (by kernel_rfl) (by kernel_rfl) (by kernel_rfl)
 have hTo:=@run_callFunc_extern Tryz.prog 67 _ Extern.ReflectliteType.typeOf Tryz.func67 (by kernel_rfl) (by kernel_rfl) (by kernel_rfl) (by kernel_rfl)
 have e1:=oG
 have e2:=np
 have e3:=xv
 have e4:=t8
 have e5:=tX
 have e6:=tY
 have e7:=xr
 have e8:=t6
 have e9:=t7
 have e10:=ub
 have e11:=xu
 have e12:=xt
 have e13:=nn
 have e14:=tZ
 have g2:=fun o1 o2=>g9 (g9 hgl o1) o2
 have e15:=fun o2 o3=>Bg w.heap.size g (((w.alloc (.cells #[.pointer (some ⟨g,0,none⟩)] 79 (0,0))).alloc o2).alloc o3) (g9 (g9 (World.cell?_alloc_new w #[.pointer (some ⟨g,0,none⟩)] 79 0) o2) o3)
 have e16:=fun o1 o2 o3=>BH g (w.heap.size + 1 + 1 + 1) p q (.pointer none) ((((w.alloc o1).alloc o2).alloc o3).alloc (.cells #[.pointer (some ⟨p,q,none⟩)] 61 (0,0))) (by simpa using World.cell?_alloc_new (((w.alloc o1).alloc o2).alloc o3) #[.pointer (some ⟨p,q,none⟩)] 61 0) (g9 (g9 (g9 (g9 hg o1) o2) o3) _) (by
  rw [x5 (g9 (g9 (g9 hg o1) o2) o3),x5 (g9 (g9 hg o1) o2),x5 (g9 hg o1),x5 hg];exact hfz)
 clear hgl
 go_enter Tryz.func31,Tryz.ntmps31
 go_wp2
 refine wp_loop_rounds 1 ?_
 rw [rounds_succ]
 go_wp2
 go_ret
 exact ⟨rfl,_,_,_,_,rfl⟩
set_option maxRecDepth 100000 in
set_option maxHeartbeats 4000000 in
theorem xI (c : Int) (g : Nat) (w : World) (hgl : w.cell? ⟨0,0,none⟩ = some (rty 35)) :
  Calls Tryz.prog 31 #[.iface 50 (.int .i64 c),.iface 79 (.pointer (some ⟨g,0,none⟩))] w fun e w'=>e = .returned (.bool false)∧∃ o1 o2 o3,w' = ((w.alloc o1).alloc o2).alloc o3:=by
 have h33:=@run_callFunc_extern Tryz.prog 63 _ (fun args=>Extern.ReflectliteValue.unpack (args.getD 0 (.tuple #[]))) Tryz.func63 (by kernel_rfl) (by kernel_rfl) (by kernel_rfl) (by kernel_rfl)
 have h34:=@run_callFunc_extern Tryz.prog 64 _ (Extern.ReflectliteValue.methodAny (Extern.ReflectliteValue.valueError "reflectlite.Value.Type" 0) (fun t _ _ _=>Extern.ReflectliteType.toType t)) Tryz.func64 (by kernel_rfl) (by kernel_rfl) (by kernel_rfl) (by kernel_rfl)
 have h62:=@run_callFunc_extern Tryz.prog 176 _ (Extern.ReflectliteType.abiMethod (fun t=>do pure (.int .u8 (← Rtype.kind t)))) Tryz.func176 (by kernel_rfl) (by kernel_rfl) (by kernel_rfl) (by kernel_rfl)
 have h35:=@run_callFunc_extern Tryz.prog 65 _ (Extern.ReflectliteValue.method (Extern.ReflectliteValue.valueError "reflectlite.Value.IsNil" 0) Extern.ReflectliteValue.isNil) Tryz.func65 (by kernel_rfl) (by kernel_rfl) (by kernel_rfl) (by kernel_rfl)
 have h41:=@run_callFunc_extern Tryz.prog 102 _ (Extern.ReflectliteValue.method (Extern.ReflectliteValue.valueError "reflectlite.Value.Elem" 0) Extern.ReflectliteValue.elem) Tryz.func102 (by kernel_rfl) (by kernel_rfl) (by kernel_rfl) (by kernel_rfl)
 have h42:=@run_callFunc_extern Tryz.prog 103 _ Extern.ReflectliteValue.set Tryz.func103 (by kernel_rfl) (by kernel_rfl) (by kernel_rfl) (by kernel_rfl)
 have hEl:=@run_callFunc_extern Tryz.prog 188 _ (Extern.ReflectliteType.method Extern.ReflectliteType.elem) Tryz.func188 (by kernel_rfl) (by kernel_rfl) (by kernel_rfl) (by kernel_rfl)
 have hIm:=@run_callFunc_extern Tryz.prog 189 _ (Extern.ReflectliteType.relation "Implements" Extern.ReflectliteType.implements_) Tryz.func189 (by kernel_rfl) (by kernel_rfl) (by kernel_rfl) (by kernel_rfl)
 have hAs:=@run_callFunc_extern Tryz.prog 186 _ (Extern.ReflectliteType.relation "AssignableTo" Extern.ReflectliteType.assignableTo) Tryz.func186 (by kernel_rfl) (by kernel_rfl) (by kernel_rfl) (by kernel_rfl)
 have hTo:=@run_callFunc_extern Tryz.prog 67 _ Extern.ReflectliteType.typeOf Tryz.func67 (by kernel_rfl) (by kernel_rfl) (by kernel_rfl) (by kernel_rfl)
 have e1:=oG
 have e2:=np
 have e3:=xv
 have e4:=t8
 have e5:=tX
 have e6:=tY
 have e7:=xr
 have e8:=t6
 have e9:=t7
 have e10:=ub
 have e11:=xu
 have e12:=xt
 have e13:=nn
 have e14:=tZ
 have g2:=fun o1 o2=>g9 (g9 hgl o1) o2
 have e15:=Be
 have e16:=Bh
 have e17:=ua
 have e18:=rH
 clear hgl
 go_enter Tryz.func31,Tryz.ntmps31
 go_wp2
 refine wp_loop_rounds 1 ?_
 rw [rounds_succ]
 go_wp2
 go_ret
 exact ⟨rfl,_,_,_,rfl⟩
end Go.Proofs.YtmpdocplcgbpkaaGreatDoor
namespace Go.Proofs.YtmpdocplcgbpkaaGreatDoor
set_option linter.unusedSimpArgs false
set_option linter.unusedVariables false
open Go.RowKit Go.Extern.Stop Go.Stop Go.Extern
theorem oF : (Tryz.prog.info? 50).map (fun i=>i.comparable) = some true:=by kernel_rfl
set_option maxRecDepth 100000 in
set_option maxHeartbeats 4000000 in
theorem yg (p q : Nat) (e0 c : Int) (w : World) (hp : w.cell? ⟨p,q + 1,none⟩ = some (.iface 50 (.int .i64 e0))) :
  Calls Tryz.prog 32 #[.iface 61 (.pointer (some ⟨p,q,none⟩)),.iface 50 (.int .i64 c)] w fun e w'=>e = .returned (.bool (e0 == c))∧w' = w:=by
 have hTo:=@run_callFunc_extern Tryz.prog 67 _ Extern.ReflectliteType.typeOf Tryz.func67 (by kernel_rfl) (by kernel_rfl) (by kernel_rfl) (by kernel_rfl)
 have hCo:=@run_callFunc_extern Tryz.prog 187 _ (Extern.ReflectliteType.method fun t=>do Rtype.noPackHeld "Comparable" t;pure (.bool (← typeInfo t).comparable)) Tryz.func187 (by kernel_rfl) (by kernel_rfl) (by kernel_rfl) (by kernel_rfl)
 have e1:=nn
 have e2:=zL
 have e3:=Bf
 have e4:=zM
 have e5:=vu
 have e6:=Bj
 have e7:=Bi
 have e8:=ua
 have e9:=rH
 have hty:=run_eql_iface_types (P:=Tryz.prog) 61 50 (.pointer (some ⟨p,q,none⟩)) (.int .i64 c) Tryz.underlying35 (by decide) w
 have heq:=fun (a b : Int) (w : World)=>Go.Lib.run_eql_iface_int w (k:=.i64) a b Tryz.underlying35 oF Tryz.underlying50
 by_cases h : e0 = c
 ·subst h
  have hb : (e0 == e0) = true:=by simp
  go_enter Tryz.func32,Tryz.ntmps32
  go_wp2
  refine wp_loop_rounds 2 ?_
  rw [rounds_succ]
  go_wp2
  rw [rounds_succ]
  go_wp2
  go_ret
  exact ⟨by rw [hb];rfl,rfl⟩
 ·have hb : (e0 == c) = false:=by simpa using h
  go_enter Tryz.func32,Tryz.ntmps32
  go_wp2
  refine wp_loop_rounds 2 ?_
  rw [rounds_succ]
  go_wp2
  rw [rounds_succ]
  go_wp2
  go_ret
  exact ⟨by rw [hb];rfl,rfl⟩
end Go.Proofs.YtmpdocplcgbpkaaGreatDoor
namespace Go.Proofs.YtmpdocplcgbpkaaGreatDoor
set_option linter.unusedSimpArgs false
set_option linter.unusedVariables false
open Go.RowKit Go.Extern.Stop Go.Stop Go.Extern
theorem s7 : (Tryz.prog.info? 61).map (fun i=>i.comparable) = some true:=by kernel_rfl
theorem rI : (Tryz.prog.info? 63).isSome = true:=by kernel_rfl
theorem x6 (w : World) (c : Array Value) (t : TypeId) : (w.alloc (.cells c t (0,0))).frozen? ⟨w.heap.size,0,none⟩ = false:=by
 exact World.frozen?_alloc_new w c t 0
theorem vH (p q : Nat) (w : World) (hgl : w.cell? ⟨0,0,none⟩ = some (rty 35)) :
  Calls Tryz.prog 31 #[.iface 61 (.pointer (some ⟨p,q,none⟩)),.iface 79 (.pointer (some ⟨w.heap.size,0,none⟩))] (w.alloc (.cells #[.pointer none] 61 (0,0))) fun e w'=>e = .returned (.bool true)∧w'.cell? ⟨w.heap.size,0,none⟩ = some (.pointer (some ⟨p,q,none⟩))∧Below w.heap.size w w' :=
 (ta p q w.heap.size _ (World.cell?_alloc_new w #[.pointer none] _ 0) (x6 w _ _) (g9 hgl _)).mono fun e w' ⟨he,o1,o2,o3,o4,hw⟩=>by
  subst hw
  refine ⟨he,World.cell?_setCell_same _ _ _ (g9 (g9 (g9 (g9 (World.cell?_alloc_new w #[.pointer none] 61 0) o1) o2) o3) o4),?_⟩
  exact ((((((Below.refl _ w).alloc (Nat.le_refl _) _).alloc (by simp) _).alloc (by simp;omega) _).alloc (by simp;omega) _).alloc (by simp;omega) _).setCell (Nat.le_refl _) _
set_option maxRecDepth 100000 in
set_option maxHeartbeats 4000000 in
theorem sm (p q : Nat) (a0 e0 at0 c : Int) (w : World) (hp0 : w.cell? ⟨p,q,none⟩ = some (.int .i64 a0)) (hp1 : w.cell? ⟨p,q + 1,none⟩ = some (.iface 50 (.int .i64 e0))) (hgl : w.cell? ⟨0,0,none⟩ = some (rty 35)) :
  Calls Tryz.prog 14 #[.iface 61 (.pointer (some ⟨p,q,none⟩)),.int .i64 at0,.int .i64 c] w fun e w'=>e = .returned (.bool ((e0 == c) && (a0 == at0)))∧Below w.heap.size w w':=by
 obtain ⟨i,hi,hcmp⟩:=Option.map_eq_some_iff.1 s7
 obtain ⟨j,hj⟩:=Option.isSome_iff_exists.1 rI
 have heq:=fun w=>run_eql_iface_ptr_same (P:=Tryz.prog) w ⟨p,q,none⟩ Tryz.underlying35 Tryz.underlying61 hi hcmp hj
 have heqN : ∀ w,(binOp .neq 35 (.iface 61 (.pointer (some ⟨p,q,none⟩))) (.iface 61 (.pointer (some ⟨p,q,none⟩)))).run Tryz.prog w = .ok (.bool false) w:=fun w=>by
  simp only [binOp]
  simp [Op.equal,Op.maxDepth,run_equalIn_iface_ptr_same w 9998 ⟨p,q,none⟩ Tryz.underlying35 Tryz.underlying61 hi hcmp hj]
 have heq2:=fun (a b : Int) (w : World)=>Go.Lib.run_eql_iface_int w (k:=.i64) a b Tryz.underlying35 oF Tryz.underlying50
 have hAs:=vH p q w hgl
 have hpl:=World.block_lt_of_cell? w ⟨p,q,none⟩ hp0
 cases hb1 : (e0 == c) <;> cases hb2 : (a0 == at0)
 all_goals
  go_enter Tryz.func14,Tryz.ntmps14
  go_wp2_with (first | (go_at_call 31;refine hAs.mono ?_;rintro e W ⟨rfl,hg,hbel⟩;have hq0:=(hbel.cell (p:=⟨p,q,none⟩) hpl).trans hp0;have hq1:=(hbel.cell (p:=⟨p,q + 1,none⟩) hpl).trans hp1;have hIs:=yg p q e0 c W hq1;rw [hb1] at hIs;clear hAs hp0 hp1 hgl) | (go_at_call 32;refine hIs.mono ?_;rintro e W2 ⟨rfl,rfl⟩))
  all_goals
   go_ret
   exact ⟨rfl,hbel⟩
end Go.Proofs.YtmpdocplcgbpkaaGreatDoor
namespace Go.Proofs.YtmpdocplcgbpkaaGreatDoor
set_option linter.unusedSimpArgs false
set_option linter.unusedVariables false
open Go.RowKit
theorem iI {G : Gh} {w : World} (hag : ∀ b o v,G.Z b o = some v→w.cell? ⟨b,o,none⟩ = some v∧v.oneCell' = true) (hgl : Gl G.Z) : w.cell? ⟨0,0,none⟩ = some (rty 35):=by
 have h:=hgl 0 _ rfl
 obtain ⟨b,off,f,e,hz,hp⟩:=gk (VRel.p (G:=G) (B:=bP []) h)
 have h1:=hz 0 (by simp)
 have h2:=hp 0 (by simp)
 have h3:=(hag _ _ _ h1).1
 obtain ⟨v',e2,h4⟩:=dk (VRel.p (G:=G) (B:=bP []) h2)
 obtain ⟨vs,e3,hs,_,hp4⟩:=fe h4
 have h5:=cI (hp4 0 (by simp))
 have e4 : vs = #[hnd 35]:=by
  cases vs with
  | mk l =>
   match l,hs with
   | [v0],_=>simp at h5;subst h5;rfl
 subst e4
 subst e3
 rw [e2] at h3
 simp only [Value.pointer.injEq,Option.some.injEq,Addr.mk.injEq] at e
 obtain ⟨q1,q2,_⟩:=e
 rw [← q1,Nat.add_zero,show off = 0 by omega] at h3
 exact h3
theorem uD (a0 at0 : Int) (e c : Nat) (he : e ≠ 0) : AFn Tryz.prog 14 [iy a0 e,.c (.int .i64 at0),.c (.int .i64 c)] [] (.c (.bool (((e : Int) == (c : Int)) && (a0 == at0)))) [] :=
 ue fun w G vs hag hgl hs hargs=>by
  have h0:=hargs 0 (by simp)
  have h1:=cI (hargs 1 (by simp))
  have h2:=cI (hargs 2 (by simp))
  obtain ⟨v',e0,h3⟩:=dk h0
  obtain ⟨b,off,f,e1,hz,hp⟩:=gk h3
  subst e1
  have hc0:=(hag _ _ _ (hz 0 (by simp))).1
  have hc1:=(hag _ _ _ (hz 1 (by simp))).1
  have p0:=cI (VRel.p (G:=G) (B:=bP []) (hp 0 (by simp)))
  have p1:=hp 1 (by simp)
  simp only [List.getElem_cons_succ,List.getElem_cons_zero,cK he] at p0 p1
  obtain ⟨v2,e2,h4⟩:=dk (VRel.p (G:=G) (B:=bP []) p1)
  have h5:=cI h4
  subst h5
  rw [p0] at hc0
  rw [e2] at hc1
  obtain rfl : vs = #[.iface 61 (.pointer (some ⟨b,off + 0,none⟩)),.int .i64 at0,.int .i64 c]:=by
   cases vs with
   | mk l =>
    match l,hs with
    | [x,y,z],_ =>
     simp at e0 h1 h2
     subst e0 h1 h2
     rfl
  exact sm b (off + 0) a0 e at0 c w hc0 hc1 (iI hag hgl)
end Go.Proofs.YtmpdocplcgbpkaaGreatDoor
namespace Go.Proofs.YtmpdocplcgbpkaaGreatDoor
set_option linter.unusedSimpArgs false
set_option linter.unusedVariables false
open Go.RowKit
abbrev vS (x : AV) : AV:=.bc [x] 61
theorem Ab {w : World} {G : Gh} {x : AV} {v : Value} (hst : BSim Tryz.prog (fun b=>b < w.heap.size∧∀ k,G.γ k ≠ some b) G (bP [vS x]) w) (h : VRel G (bP [vS x]) v (.loc 20000 0)) :
  ∃ g c,v = .pointer (some ⟨g,0,none⟩)∧G.γ 20000 = some g∧w.heap[g]? = some (.cells c 61 (0,0))∧1≤c.size∧VRel G (bP [vS x]) (c.getD 0 undef) x∧(∀ o,G.Z g o = none)∧g < w.heap.size:=by
 obtain ⟨g,cs,ty,e,_,hB,hg,hm⟩:=ff h
 have hB2 : bP [vS x] 20000 = vS x:=by rw [lV _ rfl,if_pos rfl]
 rw [hB2] at hB
 cases hB
 obtain ⟨_,_,hbx⟩:=hst.box 20000 g hg
 have hlt:=hbx.lt
 rcases hbx with ⟨cs,ty,h1,h2⟩ | ⟨n,e',h1,_⟩ | ⟨cs,v',e',sz,h1,_⟩
 ·rw [hB2] at h1
  cases h1
  rcases h2 with ⟨_,c,h3,h4,h5,h6⟩ | ⟨h3,_⟩
  ·have h4' : 1≤c.size:=h4
   exact ⟨g,c,e,hg,h3,h4',(h6 0 (by simp)).1,h5,hlt⟩
  ·rw [hm] at h3;cases h3
 ·rw [hB2] at h1;cases h1
 ·rw [hB2] at h1;cases h1
theorem wT {w : World} {g : Nat} {c : Array Value} {t : TypeId} (h : w.heap[g]? = some (.cells c t (0,0))) (hc : 1≤c.size) : w.cell? ⟨g,0,none⟩ = some (c.getD 0 undef):=by
 have : 0 < c.size:=hc
 simp [World.cell?,h,this]
theorem p9 {P : Program} {w w' : World} {G : Gh} {x y : AV} {g : Nat} {c : Array Value} (hst : BSim P (fun b=>b < w.heap.size∧∀ k,G.γ k ≠ some b) G (bP [vS x]) w) (hg : G.γ 20000 = some g)
  (hz : ∀ o,G.Z g o = none) (hw : w'.heap[g]? = some (.cells c 61 (0,0))) (hc : 1≤c.size) (hy : PRel G.Z (c.getD 0 undef) y) (hy1 : (c.getD 0 undef).oneCell' = true) (ho : ∀ b,b < w.heap.size→b ≠ g→w'.heap[b]? = w.heap[b]?)
  (h1 : w'.os = w.os) (h2 : w'.tape = w.tape) (h3 : w'.output = w.output) (h4 : w.heap.size≤w'.heap.size) :
  BSim P (fun b=>b < w.heap.size∧∀ k,G.γ k ≠ some b) G (bP [vS y]) w'∧WStep (fun b=>b < w.heap.size∧∀ k,G.γ k ≠ some b) w w'∧BStep G (bP [vS x]) G (bP [vS y]):=by
 have hBx : ∀ k,bP [vS x] k = if k = 20000 then vS x else .u:=lV _ rfl
 have hBy : ∀ k,bP [vS y] k = if k = 20000 then vS y else .u:=lV _ rfl
 have hk0 : ∀ k g',G.γ k = some g'→k = 20000:=fun k g' hk=>by
  by_cases e : k = 20000
  ·exact e
  ·exact ((hst.box k g' hk).2.2.not_u (by rw [hBx,if_neg e])).elim
 have hm : isM 61 = false:=by
  obtain ⟨_,_,hbx⟩:=hst.box 20000 g hg
  rfl
 refine ⟨⟨fun b o v hzv=>?_,fun k g' hk=>?_,fun k cs ty hk hc'=>?_,hst.inj,hst.gl⟩,⟨h1,h2,h3,h4,fun b hp _=>ho b hp.1 fun e=>hp.2 20000 (e ▸ hg)⟩,⟨.refl _,fun k hk=>?_⟩⟩
 ·have:=hst.agree b o v hzv
  have hne : b ≠ g:=fun e=>by rw [e,hz] at hzv;cases hzv
  exact ⟨(World.cell?_of_block (a:=⟨b,o,none⟩) (ho b (World.block_lt_of_cell? w ⟨b,o,none⟩ this.1) hne)).trans this.1,this.2⟩
 ·obtain rfl:=hk0 k g' hk
  rw [hg] at hk
  cases hk
  obtain ⟨q1,q2,_⟩:=hst.box 20000 g hg
  refine ⟨q1,q2,.inl ⟨[y],61,by rw [hBy,if_pos rfl],.inl ⟨hm,c,hw,hc,hz,fun j hj=>?_⟩⟩⟩
  obtain rfl : j = 0:=by simp at hj;omega
  exact ⟨.p hy,hy1⟩
 ·rw [hBy] at hc'
  split at hc'
  ·rename_i e;subst e;exact ⟨g,hg⟩
  ·cases hc'
 ·by_cases e : k = 20000
  ·subst e
   exact .bc (by rw [hBx,if_pos rfl]) (by rw [hBy,if_pos rfl]) rfl
  ·exact .u (by rw [hBx,if_neg e])
theorem vG (at0 : Int) (e : Nat) : AFn Tryz.prog 31 [iy at0 e,.ifc 79 (.loc 20000 0)] [vS (.c (.pointer none))] (.c (.bool true)) [vS (.rf [.c (.int .i64 at0),b9 e] 0)]:=fun w G vs hst hX hs hargs=>by
 have h0:=hargs 0 (by simp)
 have h1:=hargs 1 (by simp)
 obtain ⟨v0,e0,h3⟩:=dk h0
 obtain ⟨p,off,f,e1,hz,hp⟩:=gk h3
 obtain ⟨v1,e2,h4⟩:=dk h1
 obtain ⟨g,c,e3,hg,hw,hc,hx,hzg,hlt⟩:=Ab hst h4
 subst e1 e3
 obtain rfl : vs = #[.iface 61 (.pointer (some ⟨p,off + 0,none⟩)),.iface 79 (.pointer (some ⟨g,0,none⟩))]:=by
  cases vs with
  | mk l =>
   match l,hs with
   | [x,y],_ =>
    simp at e0 e2
    subst e0 e2
    rfl
 have hx0:=cI hx
 have hcell:=wT hw hc
 rw [hx0] at hcell
 refine (ta p (off + 0) g w hcell (frozen_of_row w g 0 c _ hw) (iI hst.agree hst.gl)).mono ?_
 rintro e' w' ⟨rfl,o1,o2,o3,o4,rfl⟩
 have hb4 : Below w.heap.size w ((((w.alloc o1).alloc o2).alloc o3).alloc o4):=(((((Below.refl _ w).alloc (Nat.le_refl _) _).alloc (by simp) _).alloc (by simp;omega) _).alloc (by simp;omega) _)
 generalize (((w.alloc o1).alloc o2).alloc o3).alloc o4 = W at *
 have hW : W.heap[g]? = some (.cells c 61 (0,0)):=(hb4.block g hlt).trans hw
 have hW2:=heap_setCell_same W g 0 c _ (.pointer (some ⟨p,off + 0,none⟩)) hW
 have hcg : (c.setIfInBounds 0 (.pointer (some ⟨p,off + 0,none⟩))).getD 0 undef = .pointer (some ⟨p,off + 0,none⟩):=by
  have : 0 < c.size:=hc
  simp [Array.getD_eq_getD_getElem?,this]
 obtain ⟨q1,q2,q3⟩:=p9 (y:=.rf [.c (.int .i64 at0),b9 e] 0) (w':=W.setCell ⟨g,0,none⟩ (.pointer (some ⟨p,off + 0,none⟩))) hst hg hzg hW2 (by simpa using hc) (by rw [hcg];exact .rf p off 0 _ f hz hp) (by rw [hcg];rfl)
  (fun b hb hne=>(heap_setCell_other W ⟨g,0,none⟩ b _ hne).trans (hb4.block b hb)) hb4.os hb4.tape hb4.output (by have:=hb4.size;simpa [World.setCell] using this)
 exact ⟨_,G,rfl,.p (.c _),q1,q2,q3,fun _ _ _ _=>rfl⟩
theorem p7 (e : Nat) : AFn Tryz.prog 31 [b9 e,.ifc 79 (.loc 20000 0)] [vS (.c (.pointer none))] (.c (.bool false)) [vS (.c (.pointer none))]:=fun w G vs hst hX hs hargs=>by
 have h0:=hargs 0 (by simp)
 have h1:=hargs 1 (by simp)
 obtain ⟨v1,e2,h4⟩:=dk h1
 obtain ⟨g,c,e3,hg,hw,hc,hx,hzg,hlt⟩:=Ab hst h4
 subst e3
 have hx0:=cI hx
 by_cases he : e = 0
 ·subst he
  have h3:=cI (x:=.nilIface) h0
  obtain rfl : vs = #[.nilIface,.iface 79 (.pointer (some ⟨g,0,none⟩))]:=by
   cases vs with
   | mk l =>
    match l,hs with
    | [x,y],_ =>
     simp at h3 e2
     subst h3 e2
     rfl
  have key : Calls Tryz.prog 31 #[.nilIface,.iface 79 (.pointer (some ⟨g,0,none⟩))] w fun e w'=>e = .returned (.bool false)∧w' = w:=by
   clear hw hc hx hx0 hzg hlt hst hX hargs h0 h1 h3 h4 e2 hg
   go_enter Tryz.func31,Tryz.ntmps31
   go_wp2
   go_ret
   exact ⟨rfl,rfl⟩
  refine key.mono ?_
  rintro e' w' ⟨rfl,rfl⟩
  exact ⟨_,G,rfl,.p (.c _),hst,.refl _ _,.refl _ _,fun _ _ _ _=>rfl⟩
 ·simp only [List.getElem_cons_zero,cK he] at h0
  obtain ⟨v2,e4,h5⟩:=dk h0
  have h6:=cI h5
  subst h6
  obtain rfl : vs = #[.iface 50 (.int .i64 e),.iface 79 (.pointer (some ⟨g,0,none⟩))]:=by
   cases vs with
   | mk l =>
    match l,hs with
    | [x,y],_ =>
     simp at e4 e2
     subst e4 e2
     rfl
  refine (xI e g w (iI hst.agree hst.gl)).mono ?_
  rintro e' w' ⟨rfl,o1,o2,o3,rfl⟩
  have hb4 : Below w.heap.size w (((w.alloc o1).alloc o2).alloc o3):=((((Below.refl _ w).alloc (Nat.le_refl _) _).alloc (by simp) _).alloc (by simp;omega) _)
  generalize ((w.alloc o1).alloc o2).alloc o3 = W at *
  obtain ⟨q1,q2,q3⟩:=p9 (y:=.c (.pointer none)) (w':=W) hst hg hzg ((hb4.block g hlt).trans hw) hc (by rw [hx0];exact .c _) (by rw [hx0];rfl)
   (fun b hb hne=>hb4.block b hb) hb4.os hb4.tape hb4.output hb4.size
  exact ⟨_,G,rfl,.p (.c _),q1,q2,q3,fun _ _ _ _=>rfl⟩
end Go.Proofs.YtmpdocplcgbpkaaGreatDoor

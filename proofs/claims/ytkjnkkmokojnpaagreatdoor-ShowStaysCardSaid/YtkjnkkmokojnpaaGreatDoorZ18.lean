/- The statements on show, in K. The shelf's contracts laid at this seat, in plain words (written by the kit's lay-plain.mjs). slices.Values handed to slices.AppendSeq, Collect, Sorted: a slice of texts, sorted, in worlds. Names that mean something: what is amiss with a program. No program is in sight. Doubles, told by sorting. No program is in sight. K: rows that the library makes and turns in place: slices.Sorted, Compact, Grow. The shelf's contracts laid at this seat, in plain words (written by the kit's lay-plain.mjs). strings.Join, strconv.Itoa in K (the shelf's contracts). strconv.Itoa in K (the shelf's contract, with its table laid whole). -/
import Derived.Test.YtkjnkkmokojnpaaGreatDoorZ12
import Derived.Test.YtkjnkkmokojnpaaGreatDoorZ16
import Derived.Test.YtkjnkkmokojnpaaGreatDoorZ17
import Derived.Test.YtkjnkkmokojnpaaGreatDoorZ5
import Derived.Shelf.SlIter.Sorted
import Derived.Ground.GgzProg
import Derived.Shelf.SortM.Plain
import Derived.Shelf.SortM.SortNone
import Derived.Ground.SlgmProg
import Derived.Shelf.Slices.CompactS
import Derived.Ground.NamesProg
import Derived.Shelf.Spec.SlicesGrow
import Derived.Ground.Names8Prog
import Derived.Test.YtkjnkkmokojnpaaGreatDoorProg
import Derived.WalkKit
import Derived.Deep.LoopGhost
import Derived.OwnWalkIn
import Derived.TacticsInMore
import Derived.RegionIn
import Derived.LoopNIn
import Derived.LoopIn
import Derived.Sort.LoopGhostIn
import Derived.Lib.Hide
import Derived.Test.YtkjnkkmokojnpaaGreatDoorZ7
import Derived.Lib.SlicesCompact
import Derived.Test.YtkjnkkmokojnpaaGreatDoorZ4
import Derived.Shelf.Strings.OnBuilder
import Derived.Shelf.Strconv.Itoa3
import Derived.Lib.AppendIntMem
namespace Go.Proofs.YtkjnkkmokojnpaaGreatDoor
set_option linter.unusedSimpArgs false
set_option linter.unusedVariables false
open Go.RowKit
theorem ma {ps : List PP} (h : ij ps 600 = true) : (∀ x ∈ ps,LtT x 600)∧ps.length≤50:=by
 unfold ij at h
 by_cases h1 : 50 < ps.length
 ·rw [if_pos h1] at h;cases h
 ·rw [if_neg h1] at h;exact ⟨uQ ps 600 (by decide) h,by omega⟩
theorem u6 (ps : List PP) : eO ps≤16:=by unfold eO;split <;> (try split) <;> decide
theorem u7 (ps : List PP) : (fK ps).2≤16:=by
 unfold fK
 split
 ·split <;> simp
 ·exact u6 ps
structure CoR (x : AV) : Prop where
 r3 :∀ g,ren g 3 x = x
 r4 :∀ g,ren g 4 x = x
 f4 :∀ b,eP b 4 x = false
 f5 :∀ b,eP b 5 x = false
 n3 : names true 3 x = []
 n4 : names true 4 x = []
theorem coR (e : Nat) : CoR (fm e):=by
 unfold fm
 split <;> constructor <;> intros <;> rfl
def gd : Nat→List Nat
|0=>[0]
|1=>[1]
|_=>[]
set_option maxRecDepth 100000 in
theorem sM (ps : List PP) (ho : mt ps) : AFn Tryz.prog 15 [.agg [gv ps]] [] (.c (.bool (ij ps 600))) []:=by
 have h1:=xZ ps 600 ho ⟨by decide,by decide⟩
 refine aC [] Tryz.func15 rfl Tryz.ntmps15 (Nat.le_of_ble_eq_true rfl) (Nat.le_of_ble_eq_true rfl) fun w0 G0 B0 Pr hB0=>?_
 simp only [aJ,aB,List.cons_append,List.nil_append]
 repeat' (first|(with_reducible refine hY _ ?_;clear hY Y)|((with_reducible first|refine ar rfl (ay fun K' hK'=>aa ?_)|refine hK' _ (ab fun Y hY=>aa ?_)|refine ae tk0 gd (ab fun Y hY=>aa ?_)|refine aa ?_|refine aq ?_);(try clear hK' K');(try dsimp only [aop]);try simp only [go_sem,seval,gd,Tryz.results15])|(with_reducible first|refine ag ?_|refine aj ?_|refine am ?_|refine aF fun K hK=>?_|refine aA ?_)|(with_reducible refine hK _ ?_;clear hK K)|(with_reducible refine ac (h1) ?_))
def wx : Wd:=[112,114,111,99,32,112,40,120,59,32,41,32,114,101,113,117,105,114,101,115,32,101,109,112,32,101,110,115,117,114,101,115,32,101,109,112,32,123,32,120,32,58,61,32,50,32,42,32,120,32,45,32,49,59,32,125]
def EO : Wd:=[112,114,111,99,32,112,32,40,32,120,32,59,32,41,32,114,101,113,117,105,114,101,115,32,101,109,112,32,101,110,115,117,114,101,115,32,101,109,112,32,123,32,120,32,58,61,32,50,32,42,32,120,32,45,32,49,32,59,32,125]
def eU : PE:=.mk 0 0 [] []
def cU : PC:=.mk 0 [] []
def aU : PA:=.mk 0 cU eU eU [] 0 []
def psU : List PP:=[⟨[112],[[120]],[],aU,aU,[.mk 1 [120] [] [] (.mk 3 0 [] [.mk 4 2 [] [.mk 1 0 [120] []],.mk 0 1 [] []]) eU cU aU [] [] [] [] []]⟩]
theorem okU : mt psU:=by
 have hl : Lg psU:=by unfold Lg;decide
 refine ⟨hl,fun p hp=>?_⟩
 simp only [psU,List.mem_singleton] at hp
 subst hp
 simp [OkP,vJ,OkA,rN,OkC,rO,OkE,jY,OkS,jB,Lg,vI,aU,cU,eU]
theorem Eg : ij psU 600 = true:=by decide +kernel
theorem Fi : fK psU = (EO,0):=by decide +kernel
def gG : Nat→List Nat
|0=>[]
|1=>[]
|2=>[1,2]
|3=>[2,3,4]
|_=>[]
set_option maxRecDepth 100000 in
set_option maxHeartbeats 4000000 in
theorem Da (X : List AV) (n : Nat) (hp : AFn Tryz.prog 20 [bs wx] [] (.tup [.agg [.sl X n .none],.c .nilIface]) []) (hs : AFn Tryz.prog 16 [.agg [.sl X n .none]] [] (.tup [bs EO,.c .nilIface]) []) : AFn Tryz.prog 14 [] [] (.c (.bool true)) []:=by
 unfold wx at hp
 unfold EO at hs
 refine aC [] Tryz.func14 rfl Tryz.ntmps14 (Nat.le_of_ble_eq_true rfl) (Nat.le_of_ble_eq_true rfl) fun w0 G0 B0 Pr hB0=>?_
 simp only [aJ,aB,List.cons_append,List.nil_append]
 repeat' (first|(with_reducible refine hY _ ?_;clear hY Y)|((with_reducible first|refine ar rfl (ay fun K' hK'=>aa ?_)|refine hK' _ (ab fun Y hY=>aa ?_)|refine ba rfl (ab fun Y hY=>aa ?_)|refine ab fun Y hY=>aa ?_|refine ay fun K' hK'=>aa ?_|refine ae tk0 gG (ab fun Y hY=>aa ?_)|refine aa ?_|refine aq ?_);(try clear hK' K');(try dsimp only [aop]);try simp only [go_sem,seval,gG,Tryz.results14])|(with_reducible first|refine ag ?_|refine aK ?_|refine aj ?_|refine am ?_|refine aF fun K hK=>?_|refine aA ?_)|(with_reducible refine hK _ ?_;clear hK K)|((with_reducible refine aI ?_ ?_);(· decide))|(with_reducible refine ac (hp) ?_)|(with_reducible refine ac (hs) ?_)|(with_reducible refine bg (ii) ?_)|(with_reducible refine bg (bN _) ?_))
def dl : Nat→List Nat
|0=>[0]
|1=>[1]
|2=>[1,3]
|3=>[1,3,4]
|4=>[3]
|5=>[1,3]
|6=>[1,3,5,6]
|7=>[1,3,5,6,7]
|8=>[1,3,5,6,7,8,9]
|_=>[]
set_option maxRecDepth 100000 in
set_option maxHeartbeats 8000000 in
theorem tW (hu : AFn Tryz.prog 14 [] [] (.c (.bool true)) []) (ps : List PP) (ho : mt ps) (h1 : ij ps 600 = true→oY ps) (h2 : ij ps 600 = true→kz ps)
  (h3 : AFn Tryz.prog 17 [.agg [gv ps]] [] (fm (eO ps)) []) (h4 : AFn Tryz.prog 19 [.agg [gv ps]] [] (inA (eO ps : Int)) []) :
  AFn Tryz.prog 5 [.agg [gv ps]] [] (.c (.bool true)) []:=by
 have hs:=sM ps ho
 cases hb : ij ps 600 with
|false =>
  rw [hb] at hs
  clear h1 h2 h3 h4
  refine aC [] Tryz.func5 rfl Tryz.ntmps5 (Nat.le_of_ble_eq_true rfl) (Nat.le_of_ble_eq_true rfl) fun w0 G0 B0 Pr hB0=>?_
  simp only [aJ,aB,List.cons_append,List.nil_append]
  repeat' (first|(with_reducible refine hY _ ?_;clear hY Y)|((with_reducible first|refine ar rfl (ay fun K' hK'=>aa ?_)|refine hK' _ (ab fun Y hY=>aa ?_)|refine ab fun Y hY=>aa ?_|refine ae tk0 dl (ab fun Y hY=>aa ?_)|refine aa ?_|refine aq ?_);(try clear hK' K');(try dsimp only [aop]);try simp only [go_sem,seval,dl,Tryz.results5])|(with_reducible first|refine ag ?_|refine aj ?_|refine am ?_|refine aF fun K hK=>?_|refine ax ?_|refine aZ ?_|refine aA ?_)|(with_reducible refine hK _ ?_;clear hK K)|((with_reducible refine ai ?_ ?_);(· decide))|(with_reducible refine ac (hu) ?_)|(with_reducible refine ac (hs) ?_))
|true =>
  rw [hb] at hs
  have d1:=h1 hb
  have d2:=h2 hb
  clear h1 h2
  unfold oY at d1
  unfold kz at d2
  have k1:=vS (fK ps).2 (u7 ps)
  have k2:=vS (eO ps) (u6 ps)
  obtain ⟨a1,a2,a3,a4,a5,a6⟩:=coR (fK ps).2
  obtain ⟨b1,b2,b3,b4,b5,b6⟩:=coR (eO ps)
  generalize (fK ps).1 = T at *
  generalize (fK ps).2 = E at *
  generalize eO ps = F at *
  generalize fm E = CE at *
  generalize fm F = CF at *
  refine aC [] Tryz.func5 rfl Tryz.ntmps5 (Nat.le_of_ble_eq_true rfl) (Nat.le_of_ble_eq_true rfl) fun w0 G0 B0 Pr hB0=>?_
  simp only [aJ,aB,List.cons_append,List.nil_append]
  repeat' (first|(with_reducible refine hY _ ?_;clear hY Y)|((with_reducible first|refine ar rfl (ay fun K' hK'=>aa ?_)|refine hK' _ (ab fun Y hY=>aa ?_)|refine ab fun Y hY=>aa ?_|refine ae tk0 dl (ab fun Y hY=>aa ?_)|refine aa ?_|refine aq ?_|refine cX rfl (dx fun K' hK'=>aa ?_)|refine hK' _ _ (ab fun Y hY=>aa ?_)|refine mF rfl (ab fun Y hY=>aa ?_)|refine dx fun K' hK'=>aa ?_);(try clear hK' K');(try dsimp only [aop]);try simp only [go_sem,seval,dl,Tryz.results5,a1,a2,a3,a4,a5,a6,b1,b2,b3,b4,b5,b6])|(with_reducible first|refine ag ?_|refine aK ?_|refine aj ?_|refine am ?_|refine aF fun K hK=>?_|refine av ?_|refine aD ?_|refine aA ?_|refine bV ?_|refine eS fun K hK=>?_)|(with_reducible refine hK _ ?_;clear hK K)|(with_reducible refine hK _ _ ?_ ?_;(· kernel_rfl);clear hK K)|((with_reducible first|refine aI ?_ ?_|refine ai ?_ ?_);(· decide))|(with_reducible refine bU tk0 dl ?_ ?_;(· kernel_rfl))|(with_reducible refine ac (hu) ?_)|(with_reducible refine ac (hs) ?_)|(with_reducible refine ac (d1) ?_)|(with_reducible refine ac (d2) ?_)|(with_reducible refine ac (h3) ?_)|(with_reducible refine ac (h4) ?_)|(with_reducible refine ac (k1) ?_)|(with_reducible refine ac (k2) ?_)|(with_reducible refine bg (bN _) ?_))
def dL : Nat→List Nat
|0=>[0]
|1=>[1]
|2=>[1,3]
|3=>[1,3,4]
|4=>[3]
|5=>[1,3]
|6=>[1,3,5,6]
|7=>[1,3,5,6,7,8]
|8=>[1,3,5,6,7,8,9,10]
|9=>[3,5,6,7,8,9,10,11,12]
|_=>[]
set_option maxRecDepth 100000 in
set_option maxHeartbeats 8000000 in
theorem tV (hu : AFn Tryz.prog 14 [] [] (.c (.bool true)) []) (ps : List PP) (ho : mt ps) (h1 : ij ps 600 = true→oY ps) (h2 : ij ps 600 = true→kz ps) :
  AFn Tryz.prog 7 [.agg [gv ps]] [] (.c (.bool true)) []:=by
 have hs:=sM ps ho
 cases hb : ij ps 600 with
|false =>
  rw [hb] at hs
  clear h1 h2
  refine aC [] Tryz.func7 rfl Tryz.ntmps7 (Nat.le_of_ble_eq_true rfl) (Nat.le_of_ble_eq_true rfl) fun w0 G0 B0 Pr hB0=>?_
  simp only [aJ,aB,List.cons_append,List.nil_append]
  repeat' (first|(with_reducible refine hY _ ?_;clear hY Y)|((with_reducible first|refine ar rfl (ay fun K' hK'=>aa ?_)|refine hK' _ (ab fun Y hY=>aa ?_)|refine ab fun Y hY=>aa ?_|refine ae tk0 dL (ab fun Y hY=>aa ?_)|refine aa ?_|refine aq ?_);(try clear hK' K');(try dsimp only [aop]);try simp only [go_sem,seval,dL,Tryz.results7])|(with_reducible first|refine ag ?_|refine aj ?_|refine am ?_|refine aF fun K hK=>?_|refine ax ?_|refine aZ ?_|refine aA ?_)|(with_reducible refine hK _ ?_;clear hK K)|((with_reducible refine ai ?_ ?_);(· decide))|(with_reducible refine ac (hu) ?_)|(with_reducible refine ac (hs) ?_))
|true =>
  rw [hb] at hs
  have d1:=h1 hb
  have d2:=h2 hb
  clear h1 h2
  unfold oY at d1
  unfold kz at d2
  have k1:=vS (fK ps).2 (u7 ps)
  obtain ⟨a1,a2,a3,a4,a5,a6⟩:=coR (fK ps).2
  generalize (fK ps).1 = T at *
  generalize (fK ps).2 = E at *
  generalize fm E = CE at *
  refine aC [] Tryz.func7 rfl Tryz.ntmps7 (Nat.le_of_ble_eq_true rfl) (Nat.le_of_ble_eq_true rfl) fun w0 G0 B0 Pr hB0=>?_
  simp only [aJ,aB,List.cons_append,List.nil_append]
  repeat' (first|(with_reducible refine hY _ ?_;clear hY Y)|((with_reducible first|refine ar rfl (ay fun K' hK'=>aa ?_)|refine hK' _ (ab fun Y hY=>aa ?_)|refine ba rfl (ab fun Y hY=>aa ?_)|refine ab fun Y hY=>aa ?_|refine ay fun K' hK'=>aa ?_|refine ae tk0 dL (ab fun Y hY=>aa ?_)|refine aa ?_|refine aq ?_);(try clear hK' K');(try dsimp only [aop]);try simp only [go_sem,seval,dL,Tryz.results7,a1,a2,a3,a4,a5,a6])|(with_reducible first|refine ag ?_|refine aK ?_|refine aj ?_|refine am ?_|refine aF fun K hK=>?_|refine av ?_|refine aD ?_|refine aA ?_)|(with_reducible refine hK _ ?_;clear hK K)|((with_reducible first|refine aI ?_ ?_|refine ai ?_ ?_);(· decide))|(with_reducible refine ac (hu) ?_)|(with_reducible refine ac (hs) ?_)|(with_reducible refine ac (d1) ?_)|(with_reducible refine ac (d2) ?_)|(with_reducible refine ac (k1) ?_)|(with_reducible refine bg (bN _) ?_))
end Go.Proofs.YtkjnkkmokojnpaaGreatDoor
namespace Go.Proofs
open Go.Shelf
end Go.Proofs
namespace Go.Proofs.YtkjnkkmokojnpaaGreatDoor
set_option linter.unusedSimpArgs false
set_option linter.unusedVariables false
open Go.RowKit Go.Maps Go.Sort Go.Shelf
end Go.Proofs.YtkjnkkmokojnpaaGreatDoor
namespace Go.Proofs.YtkjnkkmokojnpaaGreatDoor
set_option linter.unusedSimpArgs false
set_option linter.unusedVariables false
open Go.RowKit
def PS'.name : PS'→Wd
 | .mk _ x _ _ _ _ _ _ _ _ _ _ _=>x
def PP.own (x : PP) : List Wd:=x.params ++ x.ghosts
end Go.Proofs.YtkjnkkmokojnpaaGreatDoor
namespace Go.Proofs.YtkjnkkmokojnpaaGreatDoor
set_option linter.unusedSimpArgs false
set_option linter.unusedVariables false
open Go.RowKit
end Go.Proofs.YtkjnkkmokojnpaaGreatDoor
namespace Go.Proofs.YtkjnkkmokojnpaaGreatDoor
set_option linter.unusedSimpArgs false
set_option linter.unusedVariables false
open Go.RowKit Go.Proofs
theorem qb {P : Program} {f : FuncId} {args : List AV} {r : AV}
  (h : ∀ (w : World) (G : Gh) (vs : Array Value),(∀ b o v,G.Z b o = some v→w.cell? ⟨b,o,none⟩ = some v∧v.oneCell' = true)→Gl G.Z→(∀ g cs,qF g = some cs→∃ ty fl,w.heap[g]? = some (.cells cs ty fl))→vs.size = args.length→(∀ j (h : j < args.length),VRel G (cY []) (vs.getD j undef) args[j]) →
   Calls P f vs w fun e w'=>∃ v,e = .returned v∧PRel G.Z v r∧Below w.heap.size w w') : AFn P f args [] r []:=fun w G vs hst hX hvs hargs=>by
 have hγ : ∀ k,G.γ k = none:=fun k=>by
  cases hg : G.γ k with
  | none=>rfl
  | some g =>
   obtain ⟨_,_,hb⟩:=hst.box k g hg
   rcases hb with ⟨_,_,h1,_⟩ | ⟨_,_,h1,_⟩ <;> rw [pI] at h1 <;> cases h1
 refine (h w G vs hst.agree hst.gl (fun g cs hg=>(hX g cs hg).1) hvs hargs).mono fun e w' ⟨v,he,hr,hb⟩=>⟨v,G,he,.p hr,⟨fun b o v hz=>?_,fun k g hk=>?_,fun k cs ty _ hc=>?_,fun k k' g hk=>?_,hst.gl⟩,⟨hb.os,hb.tape,hb.output,hb.size,fun b hp _=>hb.block b hp.1⟩,.refl _ _,fun _ _ _ _=>rfl⟩
 ·have:=hst.agree b o v hz
  exact ⟨(hb.cell (p:=⟨b,o,none⟩) (World.block_lt_of_cell? w ⟨b,o,none⟩ this.1)).trans this.1,this.2⟩
 ·rw [hγ] at hk;cases hk
 ·rw [pI] at hc;cases hc
 ·rw [hγ] at hk;cases hk
theorem vL {P : Program} {f : FuncId} {args : List AV} {r : AV}
  (h : ∀ (w : World) (G : Gh) (vs : Array Value),(∀ b o v,G.Z b o = some v→w.cell? ⟨b,o,none⟩ = some v∧v.oneCell' = true)→Gl G.Z→vs.size = args.length→(∀ j (h : j < args.length),VRel G (cY []) (vs.getD j undef) args[j]) →
   Calls P f vs w fun e w'=>∃ v,e = .returned v∧PRel G.Z v r∧Below w.heap.size w w') : AFn P f args [] r []:=qb fun w G vs a b _ c d=>h w G vs a b c d
end Go.Proofs.YtkjnkkmokojnpaaGreatDoor
namespace Go.Proofs
open Go.Shelf
def Tryz.zJoin_ren : Go.Shelf.Ren:=⟨fun | 156=>39 | 165=>96 | 166=>97 | 169=>98 | 240=>173 | 241=>174 | 276=>211 | 277=>212 | n=>n,fun | 31=>48 | 9=>9 | 3=>3 | 4=>4 | 0=>0 | 20=>20 | 72=>144 | 76=>145 | 70=>141 | 37=>142 | 75=>28 | 127=>201 | 164=>173 | 5=>5 | 80=>147 | n=>n,fun | n=>n⟩
theorem Tryz.zJoin : Go.Proofs.Lays.n156 Tryz.prog Tryz.zJoin_ren:={
 mixed:=by kernel_rfl
 f156:=Tryz.func39.trans (congrArg some (by kernel_rfl))
 f165:=Tryz.func96.trans (congrArg some (by kernel_rfl))
 f166:=Tryz.func97.trans (congrArg some (by kernel_rfl))
 f169:=Tryz.func98.trans (congrArg some (by kernel_rfl))
 f240:=Tryz.func173.trans (congrArg some (by kernel_rfl))
 f241:=Tryz.func174.trans (congrArg some (by kernel_rfl))
 f276:=Tryz.func211.trans (congrArg some (by kernel_rfl))
 f277:=Tryz.func212.trans (congrArg some (by kernel_rfl))
 t0:=Tryz.underlying0
 a0:=Tryz.isAgg0
 z0:=Tryz.sizeOf0
 v0:=Tryz.zeroValue0
 t3:=Tryz.underlying3
 a3:=Tryz.isAgg3
 z3:=Tryz.sizeOf3
 v3:=Tryz.zeroValue3
 t4:=Tryz.underlying4
 a4:=Tryz.isAgg4
 z4:=Tryz.sizeOf4
 v4:=Tryz.zeroValue4
 t9:=Tryz.underlying9
 a9:=Tryz.isAgg9
 z9:=Tryz.sizeOf9
 v9:=Tryz.zeroValue9
 t20:=Tryz.underlying20
 a20:=Tryz.isAgg20
 z20:=Tryz.sizeOf20
 v20:=Tryz.zeroValue20
 t31:=Tryz.underlying48
 a31:=Tryz.isAgg48
 z31:=Tryz.sizeOf48
 v31:=Tryz.zeroValue48
 t37:=Tryz.underlying142
 a37:=Tryz.isAgg142
 z37:=Tryz.sizeOf142
 v37:=Tryz.zeroValue142
 t70:=Tryz.underlying141
 a70:=Tryz.isAgg141
 z70:=Tryz.sizeOf141
 v70:=Tryz.zeroValue141
 t72:=Tryz.underlying144
 a72:=Tryz.isAgg144
 z72:=Tryz.sizeOf144
 v72:=Tryz.zeroValue144
 t75:=Tryz.underlying28
 a75:=Tryz.isAgg28
 z75:=Tryz.sizeOf28
 v75:=Tryz.zeroValue28
 t76:=Tryz.underlying145
 a76:=Tryz.isAgg145
 z76:=Tryz.sizeOf145
 v76:=Tryz.zeroValue145
 t127:=Tryz.underlying201
 a127:=Tryz.isAgg201
 z127:=Tryz.sizeOf201
 v127:=Tryz.zeroValue201
 t164:=Tryz.underlying173
 a164:=Tryz.isAgg173
 z164:=Tryz.sizeOf173
 v164:=Tryz.zeroValue173 }
def Tryz.zItoa_ren : Go.Shelf.Ren:=⟨fun | 171=>171 | 243=>210 | 246=>242 | 283=>257 | 284=>258 | 285=>259 | 286=>260 | 129=>241 | 317=>265 | 318=>266 | 319=>267 | 320=>268 | 337=>269 | 338=>270 | n=>n,fun | 3=>3 | 9=>9 | 2=>2 | 4=>4 | 171=>261 | 0=>0 | 53=>252 | 37=>142 | 5=>5 | 173=>263 | 212=>271 | 51=>250 | 20=>20 | 213=>272 | 46=>230 | 232=>273 | 233=>274 | n=>n,fun | 17=>4 | 18=>5 | 19=>6 | n=>n⟩
theorem Tryz.zItoa : Go.Proofs.LaysM.n171 Tryz.prog Tryz.zItoa_ren:={
 mixed:=by kernel_rfl
 f129:=Tryz.func241.trans (congrArg some (by kernel_rfl))
 f171:=Tryz.func171.trans (congrArg some (by kernel_rfl))
 f243:=Tryz.func210.trans (congrArg some (by kernel_rfl))
 f246:=Tryz.func242.trans (congrArg some (by kernel_rfl))
 f283:=Tryz.func257.trans (congrArg some (by kernel_rfl))
 f284:=Tryz.func258.trans (congrArg some (by kernel_rfl))
 f285:=Tryz.func259.trans (congrArg some (by kernel_rfl))
 f286:=Tryz.func260.trans (congrArg some (by kernel_rfl))
 f317:=Tryz.func265.trans (congrArg some (by kernel_rfl))
 f318:=Tryz.func266.trans (congrArg some (by kernel_rfl))
 f319:=Tryz.func267.trans (congrArg some (by kernel_rfl))
 f320:=Tryz.func268.trans (congrArg some (by kernel_rfl))
 f337:=Tryz.func269.trans (congrArg some (by kernel_rfl))
 f338:=Tryz.func270.trans (congrArg some (by kernel_rfl))
 t0:=Tryz.underlying0
 a0:=Tryz.isAgg0
 z0:=Tryz.sizeOf0
 v0:=Tryz.zeroValue0
 t2:=Tryz.underlying2
 a2:=Tryz.isAgg2
 z2:=Tryz.sizeOf2
 v2:=Tryz.zeroValue2
 t3:=Tryz.underlying3
 a3:=Tryz.isAgg3
 z3:=Tryz.sizeOf3
 v3:=Tryz.zeroValue3
 t4:=Tryz.underlying4
 a4:=Tryz.isAgg4
 z4:=Tryz.sizeOf4
 v4:=Tryz.zeroValue4
 t5:=Tryz.underlying5
 a5:=Tryz.isAgg5
 z5:=Tryz.sizeOf5
 v5:=Tryz.zeroValue5
 t9:=Tryz.underlying9
 a9:=Tryz.isAgg9
 z9:=Tryz.sizeOf9
 v9:=Tryz.zeroValue9
 t20:=Tryz.underlying20
 a20:=Tryz.isAgg20
 z20:=Tryz.sizeOf20
 v20:=Tryz.zeroValue20
 t37:=Tryz.underlying142
 a37:=Tryz.isAgg142
 z37:=Tryz.sizeOf142
 v37:=Tryz.zeroValue142
 t46:=Tryz.underlying230
 a46:=Tryz.isAgg230
 z46:=Tryz.sizeOf230
 v46:=Tryz.zeroValue230
 t51:=Tryz.underlying250
 a51:=Tryz.isAgg250
 z51:=Tryz.sizeOf250
 v51:=Tryz.zeroValue250
 t53:=Tryz.underlying252
 a53:=Tryz.isAgg252
 z53:=Tryz.sizeOf252
 v53:=Tryz.zeroValue252
 t171:=Tryz.underlying261
 a171:=Tryz.isAgg261
 z171:=Tryz.sizeOf261
 v171:=Tryz.zeroValue261
 t173:=Tryz.underlying263
 a173:=Tryz.isAgg263
 z173:=Tryz.sizeOf263
 v173:=Tryz.zeroValue263
 t212:=Tryz.underlying271
 a212:=Tryz.isAgg271
 z212:=Tryz.sizeOf271
 v212:=Tryz.zeroValue271
 t213:=Tryz.underlying272
 a213:=Tryz.isAgg272
 z213:=Tryz.sizeOf272
 t232:=Tryz.underlying273
 a232:=Tryz.isAgg273
 z232:=Tryz.sizeOf273
 v232:=Tryz.zeroValue273
 t233:=Tryz.underlying274
 a233:=Tryz.isAgg274
 z233:=Tryz.sizeOf274
 v233:=Tryz.zeroValue274
 g17:=by kernel_rfl
 g18:=by kernel_rfl
 g19:=by kernel_rfl
 i0:=by kernel_rfl
 i2:=by kernel_rfl
 i3:=by kernel_rfl
 i4:=by kernel_rfl
 i5:=by kernel_rfl
 i9:=by kernel_rfl
 i20:=by kernel_rfl
 i37:=by kernel_rfl
 i46:=by kernel_rfl
 i51:=by kernel_rfl
 i53:=by kernel_rfl
 i171:=by kernel_rfl
 i173:=by kernel_rfl
 i212:=by kernel_rfl
 i232:=by kernel_rfl
 i233:=by kernel_rfl
 m17:=by kernel_rfl
 m18:=by kernel_rfl
 m19:=by kernel_rfl }
end Go.Proofs
namespace Go.Proofs.YtkjnkkmokojnpaaGreatDoor
set_option linter.unusedSimpArgs false
set_option linter.unusedVariables false
open Go.RowKit Go.Proofs Go.Shelf
theorem zL : Builder.Extra Tryz.prog Tryz.zJoin_ren where
 sizeBuilder:=by kernel_rfl
 liesBuilder:=by kernel_rfl
 t5:=Tryz.underlying5
 a5:=Tryz.isAgg5
 z5:=Tryz.sizeOf5
 v5:=Tryz.zeroValue5
 infoByte:=by kernel_rfl
 cellsByte:=by kernel_rfl
 sizeByte:=by kernel_rfl
 neB5:=by decide
abbrev stB (l : Wd) : ByteArray:=⟨l.toArray⟩
theorem qK : ∀ L : List Wd,Lib.join L [32] = aX L
 | []=>rfl
 | [a]=>by rw [Lib.join_one];rfl
 | a :: b :: r=>by
  have h:=qK (b :: r)
  rw [jw a (by simp),← h]
  simp [Lib.join]
theorem vl (L : List Wd) : (L.map stB).map (·.data.toList) = L:=by
 rw [List.map_map]
 have : (fun x : ByteArray=>x.data.toList) ∘ stB = id:=by funext l;rfl
 rw [this,List.map_id]
theorem Ec : JnC:=fun L hl hj=>by
 refine vL fun w G vs hag hgl hvs hargs=>?_
 have h0:=hargs 0 (by simp)
 have h1:=hargs 1 (by simp)
 simp only [List.getElem_cons_zero,List.getElem_cons_succ] at h0 h1
 obtain ⟨ad,cap,b,off,f,ev,⟨p1,p2,p3,p4,p5⟩,hf,_⟩:=gD h0
 have e1:=ee h1
 have hvs2 : vs = #[.slice ad L.length cap,.string (stB [32])]:=by
  cases vs with
  | mk l =>
   match l,hvs with
   | [v0,v1],_=>simp at ev e1;subst ev e1;rfl
 subst hvs2
 have hd : (stB [32]).data.toList = [32]:=rfl
 by_cases hL : L = []
 ·subst hL
  refine (Any.strings_Join_none Tryz.zJoin zL ad cap (stB [32]) w).mono ?_
  rintro e w' ⟨rfl,hw⟩
  exact ⟨_,rfl,.c _,hw ▸ Below.refl _ _⟩
 ·obtain rfl : ad = some ⟨b,off,none⟩:=by
   rcases p3 with ⟨h,_⟩ | h
   ·exact absurd (List.eq_nil_of_length_eq_zero h) hL
   ·exact h
  have hcells : ∀ (j : Nat) x,(L.map stB)[j]? = some x→w.cell? ⟨b,off + j,none⟩ = some (.string x):=fun j x hx=>by
   obtain ⟨hjl,e⟩:=List.getElem?_eq_some_iff.1 hx
   have hjl' : j < L.length:=by simpa using hjl
   have hj2 : j < (L.map bs).length:=by simpa using hjl'
   have hz:=p4 j hj2
   have hp:=p5 j hj2
   rw [List.getElem_map] at hp e
   have hv : ∀ v,PRel G.Z v (bs L[j])→v = .string (stB L[j]):=fun v h=>by cases h;rfl
   rw [← e,← hv _ hp]
   exact (hag _ _ _ hz).1
  have hbk : b < w.heap.size:=by
   have hpos : 0 < L.length:=List.length_pos_iff.2 hL
   have:=World.block_lt_of_cell? w ⟨b,off + 0,none⟩ (hcells 0 (stB L[0]) (by simp [hpos]))
   exact this
  have:=Any.strings_Join Tryz.zJoin zL b off cap (L.map stB) (stB [32]) w hcells hbk (by rw [List.length_map];omega) (by rw [List.length_map];exact p1) (by rw [vl,hd,qK];omega)
  rw [List.length_map,vl,hd,qK] at this
  refine this.mono ?_
  rintro e w' ⟨rfl,hw⟩
  exact ⟨_,rfl,.c _,hw⟩
end Go.Proofs.YtkjnkkmokojnpaaGreatDoor
namespace Go.Proofs.YtkjnkkmokojnpaaGreatDoor
set_option linter.unusedSimpArgs false
set_option linter.unusedVariables false
open Go.RowKit Go.Proofs Go.Shelf
theorem E7 : Tryz.prog.globalNamed "internal/strconv.uint64pow10" = some 4:=by kernel_rfl
theorem Fb : qF 4 = some (((List.range 20).map fun i=>Value.int .u64 ((10 ^ i : Nat) : Int)).toArray):=by unfold qF;exact if_pos rfl
theorem DY (u : Nat) : Lib.decDigits u = dec u:=by
 induction u using Nat.strongRecOn with
 | _ u ih =>
  unfold Lib.decDigits
  split
  ·rename_i h;rw [yX h]
  ·rename_i h;rw [yW (by omega),ih (u / 10) (by omega)]
theorem Bk (n : Nat) : Lib.itoa (n : Int) = dec n:=by
 unfold Lib.itoa
 rw [if_neg (by omega),Int.toNat_natCast,DY]
theorem Eb : ItC:=fun n hn=>by
 refine qb fun w G vs hag hgl hx hvs hargs=>?_
 have h0:=hargs 0 (by simp)
 simp only [List.getElem_cons_zero] at h0
 have e0:=ee h0
 have hvs2 : vs = #[.int .i64 (n : Int)]:=by
  cases vs with
  | mk l =>
   match l,hvs with
   | [v0],_=>simp at e0;subst e0;rfl
 subst hvs2
 have htab : Lib.TabIs Tryz.prog w "internal/strconv.uint64pow10" .u64 Lib.pow10Tab:=by
  unfold Lib.TabIs World.var?
  rw [E7]
  obtain ⟨ty,fl,h⟩:=hx _ _ Fb
  simp only [Option.bind_some,h]
  unfold Lib.pow10Tab
  rw [List.map_map]
  rfl
 refine (Any.strconv_Itoa Tryz.zItoa (n : Int) (by omega) (by omega) w htab).mono ?_
 rintro e w' ⟨rfl,k,os,rfl⟩
 exact ⟨_,rfl,by rw [Bk];exact .c _,Lib.below_grow _ w (Nat.le_refl _) k os⟩
end Go.Proofs.YtkjnkkmokojnpaaGreatDoor

/- Which statements can be shown: the code's empty, stmt, stmts, Check, in K (printed by gen_shl.py). -/
import Derived.Test.YtkjnkkmokojnpaaGreatDoorZ27
import Derived.Test.YtkjnkkmokojnpaaGreatDoorZ29
import Derived.Test.YtkjnkkmokojnpaaGreatDoorZ25
import Derived.Test.YtkjnkkmokojnpaaGreatDoorZ13
import Derived.Test.YtkjnkkmokojnpaaGreatDoorZ9
namespace Go.Proofs.YtkjnkkmokojnpaaGreatDoor
set_option linter.unusedSimpArgs false
set_option linter.unusedVariables false
open Go.RowKit
theorem sg (l : List AV) : l.map (wkD 0) = l:=by
 have h : wkD 0 = id:=by funext x;unfold wkD;rfl
 rw [h];exact List.map_id l
def fA : PS'→Bool
|.mk _ x f y e v c a rs gs fs b l=>x.isEmpty && (f.isEmpty && (y.isEmpty && (!dG e && (!dG v && (!fi c && (!fP a && (rs.isEmpty && (gs.isEmpty && (fs.isEmpty && (b.isEmpty && l.isEmpty))))))))))
theorem FX {a b c d e : Nat} (ha : a≤140737488351232) (hb : b≤140737488351232) (hc : c≤140737488351232) (hd : d≤140737488351232) (he : e≤140737488351232) :
  IntKind.i64.wrap ((a : Int) + (b : Int)) = ((a + b : Nat) : Int)∧IntKind.i64.wrap (((a + b : Nat) : Int) + (c : Int)) = ((a + b + c : Nat) : Int)∧IntKind.i64.wrap (((a + b + c : Nat) : Int) + (d : Int)) = ((a + b + c + d : Nat) : Int)∧IntKind.i64.wrap (((a + b + c + d : Nat) : Int) + (e : Int)) = ((a + b + c + d + e : Nat) : Int):=by
 refine ⟨?_,?_,?_,?_⟩ <;> rw [bZ (by omega) (by omega)] <;> omega
def iv : Nat→List Nat
|0=>[0]
|1=>[1]
|_=>[]
set_option maxRecDepth 100000 in
set_option maxHeartbeats 8000000 in
theorem iH (s : PS') (ho : OkS s) : AFn Tryz.prog 183 [.agg (psA s)] [] (.c (.bool (fA s))) []:=by
 obtain ⟨sk,x,y,z,e,v,c,a,rs,gs,fs,bd,els⟩:=s
 obtain ⟨_,hx,hy,hz,he,hv,hc,ha,⟨hrs,_⟩,⟨hgs,_⟩,⟨hfs,_⟩,⟨hbd,_⟩,hel,_⟩:=ho
 have h1:=oE e
 have h2:=oE v
 have h3:=vZ c hc
 have h4:=D6 a ha
 unfold Lg at hx hy hz hrs hgs hfs hbd hel
 obtain ⟨w1,w2,w3,w4⟩:=FX hrs hgs hfs hbd hel
 rw [fA]
 generalize dG e = b1 at *
 generalize dG v = b2 at *
 generalize fi c = b3 at *
 generalize fP a = b4 at *
 have e1 : (x++y++z == ([] : Wd)) = (x.isEmpty && (y.isEmpty && z.isEmpty)):=by cases x <;> cases y <;> cases z <;> rfl
 have e2 : decide (((rs.length + gs.length + fs.length + bd.length + els.length : Nat) : Int) = 0) = (rs.isEmpty && (gs.isEmpty && (fs.isEmpty && (bd.isEmpty && els.isEmpty)))):=by
  cases rs <;> cases gs <;> cases fs <;> cases bd <;> cases els <;> simp <;> omega
 obtain ⟨q1,hq1⟩ : ∃ q,q = (x.isEmpty && (y.isEmpty && z.isEmpty)):=⟨_,rfl⟩
 obtain ⟨q2,hq2⟩ : ∃ q,q = (rs.isEmpty && (gs.isEmpty && (fs.isEmpty && (bd.isEmpty && els.isEmpty)))):=⟨_,rfl⟩
 obtain ⟨R,hR⟩ : ∃ R,R = (x.isEmpty && (y.isEmpty && (z.isEmpty && (!b1 && (!b2 && (!b3 && (!b4 && (rs.isEmpty && (gs.isEmpty && (fs.isEmpty && (bd.isEmpty && els.isEmpty))))))))))):=⟨_,rfl⟩
 have hR2 : R = (q1 && (!b1 && (!b2 && (!b3 && (!b4 && q2))))):=by
  rw [hR,hq1,hq2];generalize x.isEmpty = x1;generalize y.isEmpty = y1;generalize z.isEmpty = z1;revert x1 y1 z1;intro x1 y1 z1;cases x1 <;> cases y1 <;> cases z1 <;> rfl
 rw [← hR,hR2]
 rw [← hq1] at e1
 rw [← hq2] at e2
 clear hR hR2 hq1 hq2 he hv hc ha
 obtain ⟨ek,en,ex,eks⟩:=e
 obtain ⟨vk,vn,vx,vks⟩:=v
 obtain ⟨ck,ce,cks⟩:=c
 obtain ⟨ak,⟨ack,ace,acks⟩,⟨aek,aen,aex,aeks⟩,⟨avk,avn,avx,avks⟩,af,an,aks⟩:=a
 simp only [psA,paA,bR,peA,List.cons_append,List.nil_append] at h1 h2 h3 h4 ⊢
 refine aC [] Tryz.func183 rfl Tryz.ntmps183 (Nat.le_of_ble_eq_true rfl) (Nat.le_of_ble_eq_true rfl) fun w0 G0 B0 Pr hB0=>?_
 simp only [aJ,aB,List.cons_append,List.nil_append]
 repeat' (first|(with_reducible refine hY _ ?_;clear hY Y)|((with_reducible first|refine ar rfl (ay fun K' hK'=>aa ?_)|refine hK' _ (ab fun Y hY=>aa ?_)|refine ba rfl (ab fun Y hY=>aa ?_)|refine ab fun Y hY=>aa ?_|refine ay fun K' hK'=>aa ?_|refine ae tk0 iv (ab fun Y hY=>aa ?_)|refine aa ?_|refine aq ?_);(try clear hK' K');(try dsimp only [aop]);try simp only [go_sem,seval,iv,Tryz.results183,e1,e2,w1,w2,w3,w4])|(with_reducible first|refine ag ?_|refine aW rfl ?_|refine aK ?_|refine dc ?_ ?_|refine aj ?_|refine am ?_|refine aF fun K hK=>?_|refine aA ?_)|(with_reducible refine hK _ ?_;clear hK K)|((with_reducible refine aI ?_ ?_);(· decide))|((with_reducible refine ci (fun hc=>?_) (fun hc=>?_)) <;> (try simp only [decide_eq_true_eq,decide_eq_false_iff_not,Bool.not_true,Bool.not_false,Bool.not_eq_true',Bool.not_eq_false'] at hc) <;> (try (exfalso;omega)))|(with_reducible refine ac (h1) ?_)|(with_reducible refine ac (h2) ?_)|(with_reducible refine ac (h3) ?_)|(with_reducible refine ac (h4) ?_)|(with_reducible refine bg (cE _ _ ?_) ?_;(· (try simp only [List.length_append,List.length_cons,List.length_nil]);omega))|(with_reducible refine bg (bN _) ?_))
 all_goals (clear h1 h2 h3 h4;simp_all)
abbrev fN (e : PS') : Prop:=AFn Tryz.prog 115 [.agg (psA e)] [] (.c (.bool (seS e))) []
abbrev eJ (l : List PS') : Prop:=AFn Tryz.prog 45 [.sl (dU l) l.length .none] [] (.c (.bool (gW l))) []
def ie : Nat→List Nat
|0=>[0]
|1=>[1]
|_=>[]
set_option maxRecDepth 100000 in
theorem AI (e : PS') (h : fN e) : AFn Tryz.prog 114 [.agg (psA e)] [] (.c (.bool (!seS e))) []:=by
 unfold fN at h
 generalize seS e = b at *
 obtain ⟨sk,x,y,z,⟨ek,en,ex,eks⟩,⟨vk,vn,vx,vks⟩,⟨ck,ce,cks⟩,⟨ak,⟨ack,ace,acks⟩,⟨aek,aen,aex,aeks⟩,⟨avk,avn,avx,avks⟩,af,an,aks⟩,rs,gs,fs,bd,els⟩:=e
 simp only [psA,paA,bR,peA,List.cons_append,List.nil_append] at h ⊢
 refine aC [] Tryz.func114 rfl Tryz.ntmps114 (Nat.le_of_ble_eq_true rfl) (Nat.le_of_ble_eq_true rfl) fun w0 G0 B0 Pr hB0=>?_
 simp only [aJ,aB,List.cons_append,List.nil_append]
 repeat' (first|(with_reducible refine hY _ ?_;clear hY Y)|((with_reducible first|refine ar rfl (ay fun K' hK'=>aa ?_)|refine hK' _ (ab fun Y hY=>aa ?_)|refine ae tk0 ie (ab fun Y hY=>aa ?_)|refine aa ?_|refine aq ?_);(try clear hK' K');(try dsimp only [aop]);try simp only [go_sem,seval,ie,Tryz.results114])|(with_reducible first|refine ag ?_|refine aj ?_|refine am ?_|refine aF fun K hK=>?_|refine aA ?_)|(with_reducible refine hK _ ?_;clear hK K)|(with_reducible refine ac (h) ?_))
def iy : Nat→List Nat
|0=>[0]
|1=>[0]
|_=>[]
set_option maxRecDepth 100000 in
theorem ry (l : List PS') (hl : Lg l) (h :∀ e ∈ l,fN e) : eJ l:=by
 have h1:=BE l 114 (fun e=>!seS e) rfl hl fun y hy=>AI y (h y hy)
 have h2 : (!l.any fun e=>!seS e) = gW l:=by rw [ni,oe]
 unfold eJ
 clear h
 refine aC [] Tryz.func45 rfl Tryz.ntmps45 (Nat.le_of_ble_eq_true rfl) (Nat.le_of_ble_eq_true rfl) fun w0 G0 B0 Pr hB0=>?_
 simp only [aJ,aB,List.cons_append,List.nil_append]
 repeat' (first|(with_reducible refine hY _ ?_;clear hY Y)|((with_reducible first|refine ar rfl (ay fun K' hK'=>aa ?_)|refine hK' _ (ab fun Y hY=>aa ?_)|refine ae tk0 iy (ab fun Y hY=>aa ?_)|refine aa ?_|refine aq ?_);(try clear hK' K');(try dsimp only [aop]);try simp only [go_sem,seval,iy,Tryz.results45,h2])|(with_reducible first|refine ag ?_|refine aj ?_|refine am ?_|refine aF fun K hK=>?_|refine aA ?_)|(with_reducible refine hK _ ?_;clear hK K)|(with_reducible refine ac (h1) ?_))
theorem wg : OkE (.mk 0 0 [] []):=⟨⟨by decide,by decide⟩,⟨by decide,by decide⟩,Nat.zero_le _,Nat.zero_le _,trivial⟩
theorem Cc : OkC (.mk 0 [] []):=⟨⟨by decide,by decide⟩,⟨Nat.zero_le _,trivial⟩,Nat.zero_le _,trivial⟩
theorem FY : OkA (.mk 0 (.mk 0 [] []) (.mk 0 0 [] []) (.mk 0 0 [] []) [] 0 []):=⟨⟨by decide,by decide⟩,Cc,wg,wg,Nat.zero_le _,⟨by decide,by decide⟩,Nat.zero_le _,trivial⟩
abbrev zE : PE:=.mk 0 0 [] []
abbrev zC : PC:=.mk 0 [] []
abbrev zA : PA:=.mk 0 (.mk 0 [] []) (.mk 0 0 [] []) (.mk 0 0 [] []) [] 0 []
def bx : Nat→List Nat
|0=>[0]
|1=>[1]
|2=>[1,3]
|3=>[1,3]
|4=>[1,3,4]
|5=>[]
|6=>[1,3,4,8]
|7=>[1,3,8]
|8=>[1,3]
|9=>[3,4]
|10=>[1,3,8]
|11=>[1,3]
|12=>[3,4]
|13=>[1,3,8]
|14=>[1,3]
|15=>[3,4]
|16=>[1,3,8]
|17=>[1,3]
|18=>[3,4]
|19=>[1,3,8]
|20=>[1,3]
|21=>[3,4]
|22=>[1,3,8]
|23=>[1,3]
|24=>[3,4]
|25=>[1,3,8]
|26=>[1,3]
|27=>[3,4]
|28=>[1,3,8]
|29=>[1,3]
|30=>[3,4]
|31=>[1,3,8]
|32=>[1,3]
|33=>[3,4]
|34=>[3,4]
|_=>[]
set_option maxRecDepth 100000 in
set_option maxHeartbeats 16000000 in
theorem Es (x f y : Wd) (e v : PE) (c : PC) (a : PA) (rs gs : List PE) (fs : List Wd) (b l : List PS') (ho : OkS (.mk 0 x f y e v c a rs gs fs b l)) (hbd : eJ b) (hel : eJ l) : fN (.mk 0 x f y e v c a rs gs fs b l):=by
 unfold fN
 rw [seS]
 simp only [reduceCtorEq,Int.reduceEq,if_true,if_false]
 have hE:=iH (.mk 0 x f y e v c a rs gs fs b l) ⟨⟨by decide,by decide⟩,ho.2.1,ho.2.2.1,ho.2.2.2.1,ho.2.2.2.2.1,ho.2.2.2.2.2.1,ho.2.2.2.2.2.2.1,ho.2.2.2.2.2.2.2.1,ho.2.2.2.2.2.2.2.2.1,ho.2.2.2.2.2.2.2.2.2.1,ho.2.2.2.2.2.2.2.2.2.2.1,ho.2.2.2.2.2.2.2.2.2.2.2.1,ho.2.2.2.2.2.2.2.2.2.2.2.2⟩
 obtain ⟨B,hB⟩ : ∃ B,B = fA (.mk 0 x f y e v c a rs gs fs b l):=⟨_,rfl⟩
 rw [← hB] at hE
 obtain ⟨R,hR⟩ : ∃ R,R = seS (.mk 0 x f y e v c a rs gs fs b l):=⟨_,rfl⟩
 rw [seS] at hR
 simp only [reduceCtorEq,Int.reduceEq,if_true,if_false] at hR
 rw [← hR]
 have hR2 : R = (B):=by
  rw [hR,hB]
  clear hE hB hR
  simp only [fA,zE,zC,zA,dG,fi,fP,List.isEmpty_nil,List.length_nil,Nat.add_zero,decide_true,Bool.not_true,Bool.false_or,Nat.lt_irrefl,decide_false,Bool.or_false,Bool.not_false,Bool.true_and,Bool.and_true]
  try rfl
 rw [hR2]
 clear hR hR2 hB ho hbd hel
 obtain ⟨ek,en,ex,eks⟩:=e
 obtain ⟨vk,vn,vx,vks⟩:=v
 obtain ⟨ck,ce,cks⟩:=c
 obtain ⟨ak,⟨ack,ace,acks⟩,⟨aek,aen,aex,aeks⟩,⟨avk,avn,avx,avks⟩,af,an,aks⟩:=a
 simp only [psA,paA,bR,peA,bY,db,eT,dU,zE,zC,zA,List.cons_append,List.nil_append,List.map_nil,List.length_nil] at hE ⊢
 refine aC [] Tryz.func115 rfl Tryz.ntmps115 (Nat.le_of_ble_eq_true rfl) (Nat.le_of_ble_eq_true rfl) fun w0 G0 B0 Pr hB0=>?_
 simp only [aJ,aB,List.cons_append,List.nil_append]
 repeat' (first|(with_reducible refine hY _ ?_;clear hY Y)|((with_reducible first|refine ar rfl (ay fun K' hK'=>aa ?_)|refine hK' _ (ab fun Y hY=>aa ?_)|refine ba rfl (ab fun Y hY=>aa ?_)|refine ab fun Y hY=>aa ?_|refine ay fun K' hK'=>aa ?_|refine ae tk0 bx (ab fun Y hY=>aa ?_)|refine aa ?_|refine aq ?_);(try clear hK' K');(try dsimp only [aop]);try simp only [go_sem,seval,bx,Tryz.results115])|(with_reducible first|refine ag ?_|refine aK ?_|refine aj ?_|refine am ?_|refine aF fun K hK=>?_|refine ax ?_|refine aR ?_|refine ap ?_|refine aD ?_|refine aA ?_)|(with_reducible refine hK _ ?_;clear hK K)|((with_reducible first|refine aI ?_ ?_|refine ai ?_ ?_);(· decide))|(with_reducible refine ac (gA 2 hE ?_) ?_;(· simp [wkD,sg,inA,bs])))
 all_goals (clear hE ;simp_all)
set_option maxRecDepth 100000 in
set_option maxHeartbeats 16000000 in
theorem Et (x f y : Wd) (e v : PE) (c : PC) (a : PA) (rs gs : List PE) (fs : List Wd) (b l : List PS') (ho : OkS (.mk 1 x f y e v c a rs gs fs b l)) (hbd : eJ b) (hel : eJ l) : fN (.mk 1 x f y e v c a rs gs fs b l):=by
 unfold fN
 rw [seS]
 simp only [reduceCtorEq,Int.reduceEq,if_true,if_false]
 have c1:=ja x (by have:=ho.2.1;unfold Lg at this;omega)
 have c2 : iu e:=fL e ho.2.2.2.2.1
 unfold iu at c2
 have hE:=iH (.mk 0 [] f y zE v c a rs gs fs b l) ⟨⟨by decide,by decide⟩,(Nat.zero_le _),ho.2.2.1,ho.2.2.2.1,wg,ho.2.2.2.2.2.1,ho.2.2.2.2.2.2.1,ho.2.2.2.2.2.2.2.1,ho.2.2.2.2.2.2.2.2.1,ho.2.2.2.2.2.2.2.2.2.1,ho.2.2.2.2.2.2.2.2.2.2.1,ho.2.2.2.2.2.2.2.2.2.2.2.1,ho.2.2.2.2.2.2.2.2.2.2.2.2⟩
 obtain ⟨B,hB⟩ : ∃ B,B = fA (.mk 0 [] f y zE v c a rs gs fs b l):=⟨_,rfl⟩
 rw [← hB] at hE
 obtain ⟨R,hR⟩ : ∃ R,R = seS (.mk 1 x f y e v c a rs gs fs b l):=⟨_,rfl⟩
 rw [seS] at hR
 simp only [reduceCtorEq,Int.reduceEq,if_true,if_false] at hR
 rw [← hR]
 generalize dQ x = p1 at *
 generalize seE e = p2 at *
 have hR2 : R = (p1 && p2 && B):=by
  rw [hR,hB]
  clear hE hB hR
  simp only [fA,zE,zC,zA,dG,fi,fP,List.isEmpty_nil,List.length_nil,Nat.add_zero,decide_true,Bool.not_true,Bool.false_or,Nat.lt_irrefl,decide_false,Bool.or_false,Bool.not_false,Bool.true_and,Bool.and_true]
  try ac_rfl
 rw [hR2]
 clear hR hR2 hB ho hbd hel
 obtain ⟨ek,en,ex,eks⟩:=e
 obtain ⟨vk,vn,vx,vks⟩:=v
 obtain ⟨ck,ce,cks⟩:=c
 obtain ⟨ak,⟨ack,ace,acks⟩,⟨aek,aen,aex,aeks⟩,⟨avk,avn,avx,avks⟩,af,an,aks⟩:=a
 simp only [psA,paA,bR,peA,bY,db,eT,dU,zE,zC,zA,List.cons_append,List.nil_append,List.map_nil,List.length_nil] at hE c2 ⊢
 refine aC [] Tryz.func115 rfl Tryz.ntmps115 (Nat.le_of_ble_eq_true rfl) (Nat.le_of_ble_eq_true rfl) fun w0 G0 B0 Pr hB0=>?_
 simp only [aJ,aB,List.cons_append,List.nil_append]
 repeat' (first|(with_reducible refine hY _ ?_;clear hY Y)|((with_reducible first|refine ar rfl (ay fun K' hK'=>aa ?_)|refine hK' _ (ab fun Y hY=>aa ?_)|refine ba rfl (ab fun Y hY=>aa ?_)|refine ab fun Y hY=>aa ?_|refine ay fun K' hK'=>aa ?_|refine ae tk0 bx (ab fun Y hY=>aa ?_)|refine aa ?_|refine aq ?_);(try clear hK' K');(try dsimp only [aop]);try simp only [go_sem,seval,bx,Tryz.results115])|(with_reducible first|refine ag ?_|refine aW rfl ?_|refine aK ?_|refine dc ?_ ?_|refine aj ?_|refine am ?_|refine aF fun K hK=>?_|refine ax ?_|refine av ?_|refine aR ?_|refine ap ?_|refine aA ?_)|(with_reducible refine hK _ ?_;clear hK K)|((with_reducible first|refine aI ?_ ?_|refine ai ?_ ?_);(· decide))|((with_reducible refine ci (fun hc=>?_) (fun hc=>?_)) <;> (try simp only [decide_eq_true_eq,decide_eq_false_iff_not,Bool.not_true,Bool.not_false,Bool.not_eq_true',Bool.not_eq_false'] at hc) <;> (try (exfalso;omega)))|(with_reducible refine ac (c1) ?_)|(with_reducible refine ac (c2) ?_)|(with_reducible refine ac (gA 2 hE ?_) ?_;(· simp [wkD,sg,inA,bs])))
 all_goals (clear hE c1 c2;simp_all)
set_option maxRecDepth 100000 in
set_option maxHeartbeats 16000000 in
theorem Eu (x f y : Wd) (e v : PE) (c : PC) (a : PA) (rs gs : List PE) (fs : List Wd) (b l : List PS') (ho : OkS (.mk 2 x f y e v c a rs gs fs b l)) (hbd : eJ b) (hel : eJ l) : fN (.mk 2 x f y e v c a rs gs fs b l):=by
 unfold fN
 rw [seS]
 simp only [reduceCtorEq,Int.reduceEq,if_true,if_false]
 have c1:=ja x (by have:=ho.2.1;unfold Lg at this;omega)
 have c2 : iu e:=fL e ho.2.2.2.2.1
 unfold iu at c2
 have c6:=ja f (by have:=ho.2.2.1;unfold Lg at this;omega)
 have hE:=iH (.mk 0 [] [] y zE v c a rs gs fs b l) ⟨⟨by decide,by decide⟩,(Nat.zero_le _),(Nat.zero_le _),ho.2.2.2.1,wg,ho.2.2.2.2.2.1,ho.2.2.2.2.2.2.1,ho.2.2.2.2.2.2.2.1,ho.2.2.2.2.2.2.2.2.1,ho.2.2.2.2.2.2.2.2.2.1,ho.2.2.2.2.2.2.2.2.2.2.1,ho.2.2.2.2.2.2.2.2.2.2.2.1,ho.2.2.2.2.2.2.2.2.2.2.2.2⟩
 obtain ⟨B,hB⟩ : ∃ B,B = fA (.mk 0 [] [] y zE v c a rs gs fs b l):=⟨_,rfl⟩
 rw [← hB] at hE
 obtain ⟨R,hR⟩ : ∃ R,R = seS (.mk 2 x f y e v c a rs gs fs b l):=⟨_,rfl⟩
 rw [seS] at hR
 simp only [reduceCtorEq,Int.reduceEq,if_true,if_false] at hR
 rw [← hR]
 generalize dQ x = p1 at *
 generalize seE e = p2 at *
 generalize dQ f = p6 at *
 have hR2 : R = (p1 && p2 && p6 && B):=by
  rw [hR,hB]
  clear hE hB hR
  simp only [fA,zE,zC,zA,dG,fi,fP,List.isEmpty_nil,List.length_nil,Nat.add_zero,decide_true,Bool.not_true,Bool.false_or,Nat.lt_irrefl,decide_false,Bool.or_false,Bool.not_false,Bool.true_and,Bool.and_true]
  try ac_rfl
 rw [hR2]
 clear hR hR2 hB ho hbd hel
 obtain ⟨ek,en,ex,eks⟩:=e
 obtain ⟨vk,vn,vx,vks⟩:=v
 obtain ⟨ck,ce,cks⟩:=c
 obtain ⟨ak,⟨ack,ace,acks⟩,⟨aek,aen,aex,aeks⟩,⟨avk,avn,avx,avks⟩,af,an,aks⟩:=a
 simp only [psA,paA,bR,peA,bY,db,eT,dU,zE,zC,zA,List.cons_append,List.nil_append,List.map_nil,List.length_nil] at hE c2 ⊢
 refine aC [] Tryz.func115 rfl Tryz.ntmps115 (Nat.le_of_ble_eq_true rfl) (Nat.le_of_ble_eq_true rfl) fun w0 G0 B0 Pr hB0=>?_
 simp only [aJ,aB,List.cons_append,List.nil_append]
 repeat' (first|(with_reducible refine hY _ ?_;clear hY Y)|((with_reducible first|refine ar rfl (ay fun K' hK'=>aa ?_)|refine hK' _ (ab fun Y hY=>aa ?_)|refine ba rfl (ab fun Y hY=>aa ?_)|refine ab fun Y hY=>aa ?_|refine ay fun K' hK'=>aa ?_|refine ae tk0 bx (ab fun Y hY=>aa ?_)|refine aa ?_|refine aq ?_);(try clear hK' K');(try dsimp only [aop]);try simp only [go_sem,seval,bx,Tryz.results115])|(with_reducible first|refine ag ?_|refine aW rfl ?_|refine aK ?_|refine dc ?_ ?_|refine aj ?_|refine am ?_|refine aF fun K hK=>?_|refine ax ?_|refine av ?_|refine aR ?_|refine ap ?_|refine aA ?_)|(with_reducible refine hK _ ?_;clear hK K)|((with_reducible first|refine aI ?_ ?_|refine ai ?_ ?_);(· decide))|((with_reducible refine ci (fun hc=>?_) (fun hc=>?_)) <;> (try simp only [decide_eq_true_eq,decide_eq_false_iff_not,Bool.not_true,Bool.not_false,Bool.not_eq_true',Bool.not_eq_false'] at hc) <;> (try (exfalso;omega)))|(with_reducible refine ac (c1) ?_)|(with_reducible refine ac (c2) ?_)|(with_reducible refine ac (c6) ?_)|(with_reducible refine ac (gA 2 hE ?_) ?_;(· simp [wkD,sg,inA,bs])))
 all_goals (clear hE c1 c2 c6;simp_all)
set_option maxRecDepth 100000 in
set_option maxHeartbeats 16000000 in
theorem Ev (x f y : Wd) (e v : PE) (c : PC) (a : PA) (rs gs : List PE) (fs : List Wd) (b l : List PS') (ho : OkS (.mk 3 x f y e v c a rs gs fs b l)) (hbd : eJ b) (hel : eJ l) : fN (.mk 3 x f y e v c a rs gs fs b l):=by
 unfold fN
 rw [seS]
 simp only [reduceCtorEq,Int.reduceEq,if_true,if_false]
 have c2 : iu e:=fL e ho.2.2.2.2.1
 unfold iu at c2
 have c6:=ja f (by have:=ho.2.2.1;unfold Lg at this;omega)
 have c4 : iu v:=fL v ho.2.2.2.2.2.1
 unfold iu at c4
 have hE:=iH (.mk 0 x [] y zE zE c a rs gs fs b l) ⟨⟨by decide,by decide⟩,ho.2.1,(Nat.zero_le _),ho.2.2.2.1,wg,wg,ho.2.2.2.2.2.2.1,ho.2.2.2.2.2.2.2.1,ho.2.2.2.2.2.2.2.2.1,ho.2.2.2.2.2.2.2.2.2.1,ho.2.2.2.2.2.2.2.2.2.2.1,ho.2.2.2.2.2.2.2.2.2.2.2.1,ho.2.2.2.2.2.2.2.2.2.2.2.2⟩
 obtain ⟨B,hB⟩ : ∃ B,B = fA (.mk 0 x [] y zE zE c a rs gs fs b l):=⟨_,rfl⟩
 rw [← hB] at hE
 obtain ⟨R,hR⟩ : ∃ R,R = seS (.mk 3 x f y e v c a rs gs fs b l):=⟨_,rfl⟩
 rw [seS] at hR
 simp only [reduceCtorEq,Int.reduceEq,if_true,if_false] at hR
 rw [← hR]
 generalize seE e = p2 at *
 generalize dQ f = p6 at *
 generalize seE v = p4 at *
 have hR2 : R = (p2 && p6 && p4 && B):=by
  rw [hR,hB]
  clear hE hB hR
  simp only [fA,zE,zC,zA,dG,fi,fP,List.isEmpty_nil,List.length_nil,Nat.add_zero,decide_true,Bool.not_true,Bool.false_or,Nat.lt_irrefl,decide_false,Bool.or_false,Bool.not_false,Bool.true_and,Bool.and_true]
  try ac_rfl
 rw [hR2]
 clear hR hR2 hB ho hbd hel
 obtain ⟨ek,en,ex,eks⟩:=e
 obtain ⟨vk,vn,vx,vks⟩:=v
 obtain ⟨ck,ce,cks⟩:=c
 obtain ⟨ak,⟨ack,ace,acks⟩,⟨aek,aen,aex,aeks⟩,⟨avk,avn,avx,avks⟩,af,an,aks⟩:=a
 simp only [psA,paA,bR,peA,bY,db,eT,dU,zE,zC,zA,List.cons_append,List.nil_append,List.map_nil,List.length_nil] at hE c2 c4 ⊢
 refine aC [] Tryz.func115 rfl Tryz.ntmps115 (Nat.le_of_ble_eq_true rfl) (Nat.le_of_ble_eq_true rfl) fun w0 G0 B0 Pr hB0=>?_
 simp only [aJ,aB,List.cons_append,List.nil_append]
 repeat' (first|(with_reducible refine hY _ ?_;clear hY Y)|((with_reducible first|refine ar rfl (ay fun K' hK'=>aa ?_)|refine hK' _ (ab fun Y hY=>aa ?_)|refine ba rfl (ab fun Y hY=>aa ?_)|refine ab fun Y hY=>aa ?_|refine ay fun K' hK'=>aa ?_|refine ae tk0 bx (ab fun Y hY=>aa ?_)|refine aa ?_|refine aq ?_);(try clear hK' K');(try dsimp only [aop]);try simp only [go_sem,seval,bx,Tryz.results115])|(with_reducible first|refine ag ?_|refine aW rfl ?_|refine aK ?_|refine dc ?_ ?_|refine aj ?_|refine am ?_|refine aF fun K hK=>?_|refine ax ?_|refine av ?_|refine aR ?_|refine ap ?_|refine aA ?_)|(with_reducible refine hK _ ?_;clear hK K)|((with_reducible first|refine aI ?_ ?_|refine ai ?_ ?_);(· decide))|((with_reducible refine ci (fun hc=>?_) (fun hc=>?_)) <;> (try simp only [decide_eq_true_eq,decide_eq_false_iff_not,Bool.not_true,Bool.not_false,Bool.not_eq_true',Bool.not_eq_false'] at hc) <;> (try (exfalso;omega)))|(with_reducible refine ac (c2) ?_)|(with_reducible refine ac (c6) ?_)|(with_reducible refine ac (c4) ?_)|(with_reducible refine ac (gA 2 hE ?_) ?_;(· simp [wkD,sg,inA,bs])))
 all_goals (clear hE c2 c6 c4;simp_all)
set_option maxRecDepth 100000 in
set_option maxHeartbeats 16000000 in
theorem Ew (x f y : Wd) (e v : PE) (c : PC) (a : PA) (rs gs : List PE) (fs : List Wd) (b l : List PS') (ho : OkS (.mk 4 x f y e v c a rs gs fs b l)) (hbd : eJ b) (hel : eJ l) : fN (.mk 4 x f y e v c a rs gs fs b l):=by
 unfold fN
 rw [seS]
 simp only [reduceCtorEq,Int.reduceEq,if_true,if_false]
 have c1:=ja x (by have:=ho.2.1;unfold Lg at this;omega)
 have c7:=qT fs ho.2.2.2.2.2.2.2.2.2.2.1
 have hE:=iH (.mk 0 [] f y e v c a rs gs [] b l) ⟨⟨by decide,by decide⟩,(Nat.zero_le _),ho.2.2.1,ho.2.2.2.1,ho.2.2.2.2.1,ho.2.2.2.2.2.1,ho.2.2.2.2.2.2.1,ho.2.2.2.2.2.2.2.1,ho.2.2.2.2.2.2.2.2.1,ho.2.2.2.2.2.2.2.2.2.1,⟨Nat.zero_le _,fun x hx=>absurd hx List.not_mem_nil⟩,ho.2.2.2.2.2.2.2.2.2.2.2.1,ho.2.2.2.2.2.2.2.2.2.2.2.2⟩
 obtain ⟨B,hB⟩ : ∃ B,B = fA (.mk 0 [] f y e v c a rs gs [] b l):=⟨_,rfl⟩
 rw [← hB] at hE
 obtain ⟨R,hR⟩ : ∃ R,R = seS (.mk 4 x f y e v c a rs gs fs b l):=⟨_,rfl⟩
 rw [seS] at hR
 simp only [reduceCtorEq,Int.reduceEq,if_true,if_false] at hR
 rw [← hR]
 generalize dQ x = p1 at *
 generalize gx fs = p7 at *
 have hR2 : R = (p1 && (!fs.isEmpty && p7) && B):=by
  rw [hR,hB]
  clear hE hB hR
  simp only [fA,zE,zC,zA,dG,fi,fP,List.isEmpty_nil,List.length_nil,Nat.add_zero,decide_true,Bool.not_true,Bool.false_or,Nat.lt_irrefl,decide_false,Bool.or_false,Bool.not_false,Bool.true_and,Bool.and_true]
  try ac_rfl
 rw [hR2]
 clear hR hR2 hB ho hbd hel
 obtain ⟨ek,en,ex,eks⟩:=e
 obtain ⟨vk,vn,vx,vks⟩:=v
 obtain ⟨ck,ce,cks⟩:=c
 obtain ⟨ak,⟨ack,ace,acks⟩,⟨aek,aen,aex,aeks⟩,⟨avk,avn,avx,avks⟩,af,an,aks⟩:=a
 simp only [psA,paA,bR,peA,bY,db,eT,dU,zE,zC,zA,List.cons_append,List.nil_append,List.map_nil,List.length_nil] at hE ⊢
 have e6 : decide ((fs.length : Int) > 0) = !fs.isEmpty:=by cases fs <;> simp <;> omega
 have e6' : decide (0 < (fs.length : Int)) = !fs.isEmpty:=e6
 generalize fs.isEmpty = q6 at *
 refine aC [] Tryz.func115 rfl Tryz.ntmps115 (Nat.le_of_ble_eq_true rfl) (Nat.le_of_ble_eq_true rfl) fun w0 G0 B0 Pr hB0=>?_
 simp only [aJ,aB,List.cons_append,List.nil_append]
 repeat' (first|(with_reducible refine hY _ ?_;clear hY Y)|((with_reducible first|refine ar rfl (ay fun K' hK'=>aa ?_)|refine hK' _ (ab fun Y hY=>aa ?_)|refine ba rfl (ab fun Y hY=>aa ?_)|refine ab fun Y hY=>aa ?_|refine ay fun K' hK'=>aa ?_|refine ae tk0 bx (ab fun Y hY=>aa ?_)|refine aa ?_|refine aq ?_);(try clear hK' K');(try dsimp only [aop]);try simp only [go_sem,seval,bx,Tryz.results115,e6,e6'])|(with_reducible first|refine ag ?_|refine aW rfl ?_|refine aK ?_|refine dc ?_ ?_|refine aj ?_|refine am ?_|refine aF fun K hK=>?_|refine ax ?_|refine av ?_|refine aR ?_|refine ap ?_|refine aA ?_)|(with_reducible refine hK _ ?_;clear hK K)|((with_reducible first|refine aI ?_ ?_|refine ai ?_ ?_);(· decide))|((with_reducible refine ci (fun hc=>?_) (fun hc=>?_)) <;> (try simp only [decide_eq_true_eq,decide_eq_false_iff_not,Bool.not_true,Bool.not_false,Bool.not_eq_true',Bool.not_eq_false'] at hc) <;> (try (exfalso;omega)))|(with_reducible refine ac (c1) ?_)|(with_reducible refine ac (c7) ?_)|(with_reducible refine ac (gA 2 hE ?_) ?_;(· simp [wkD,sg,inA,bs])))
 all_goals (clear hE c1 c7;simp_all)
set_option maxRecDepth 100000 in
set_option maxHeartbeats 16000000 in
theorem Ey (x f y : Wd) (e v : PE) (c : PC) (a : PA) (rs gs : List PE) (fs : List Wd) (b l : List PS') (ho : OkS (.mk 5 x f y e v c a rs gs fs b l)) (hbd : eJ b) (hel : eJ l) : fN (.mk 5 x f y e v c a rs gs fs b l):=by
 unfold fN
 rw [seS]
 simp only [reduceCtorEq,Int.reduceEq,if_true,if_false]
 have c2 : iu e:=fL e ho.2.2.2.2.1
 unfold iu at c2
 have c6:=ja f (by have:=ho.2.2.1;unfold Lg at this;omega)
 have hE:=iH (.mk 0 x [] y zE v c a rs gs fs b l) ⟨⟨by decide,by decide⟩,ho.2.1,(Nat.zero_le _),ho.2.2.2.1,wg,ho.2.2.2.2.2.1,ho.2.2.2.2.2.2.1,ho.2.2.2.2.2.2.2.1,ho.2.2.2.2.2.2.2.2.1,ho.2.2.2.2.2.2.2.2.2.1,ho.2.2.2.2.2.2.2.2.2.2.1,ho.2.2.2.2.2.2.2.2.2.2.2.1,ho.2.2.2.2.2.2.2.2.2.2.2.2⟩
 obtain ⟨B,hB⟩ : ∃ B,B = fA (.mk 0 x [] y zE v c a rs gs fs b l):=⟨_,rfl⟩
 rw [← hB] at hE
 obtain ⟨R,hR⟩ : ∃ R,R = seS (.mk 5 x f y e v c a rs gs fs b l):=⟨_,rfl⟩
 rw [seS] at hR
 simp only [reduceCtorEq,Int.reduceEq,if_true,if_false] at hR
 rw [← hR]
 generalize seE e = p2 at *
 generalize dQ f = p6 at *
 have hR2 : R = (p2 && p6 && B):=by
  rw [hR,hB]
  clear hE hB hR
  simp only [fA,zE,zC,zA,dG,fi,fP,List.isEmpty_nil,List.length_nil,Nat.add_zero,decide_true,Bool.not_true,Bool.false_or,Nat.lt_irrefl,decide_false,Bool.or_false,Bool.not_false,Bool.true_and,Bool.and_true]
  try ac_rfl
 rw [hR2]
 clear hR hR2 hB ho hbd hel
 obtain ⟨ek,en,ex,eks⟩:=e
 obtain ⟨vk,vn,vx,vks⟩:=v
 obtain ⟨ck,ce,cks⟩:=c
 obtain ⟨ak,⟨ack,ace,acks⟩,⟨aek,aen,aex,aeks⟩,⟨avk,avn,avx,avks⟩,af,an,aks⟩:=a
 simp only [psA,paA,bR,peA,bY,db,eT,dU,zE,zC,zA,List.cons_append,List.nil_append,List.map_nil,List.length_nil] at hE c2 ⊢
 refine aC [] Tryz.func115 rfl Tryz.ntmps115 (Nat.le_of_ble_eq_true rfl) (Nat.le_of_ble_eq_true rfl) fun w0 G0 B0 Pr hB0=>?_
 simp only [aJ,aB,List.cons_append,List.nil_append]
 repeat' (first|(with_reducible refine hY _ ?_;clear hY Y)|((with_reducible first|refine ar rfl (ay fun K' hK'=>aa ?_)|refine hK' _ (ab fun Y hY=>aa ?_)|refine ba rfl (ab fun Y hY=>aa ?_)|refine ab fun Y hY=>aa ?_|refine ay fun K' hK'=>aa ?_|refine ae tk0 bx (ab fun Y hY=>aa ?_)|refine aa ?_|refine aq ?_);(try clear hK' K');(try dsimp only [aop]);try simp only [go_sem,seval,bx,Tryz.results115])|(with_reducible first|refine ag ?_|refine aW rfl ?_|refine aK ?_|refine dc ?_ ?_|refine aj ?_|refine am ?_|refine aF fun K hK=>?_|refine ax ?_|refine av ?_|refine aR ?_|refine ap ?_|refine aA ?_)|(with_reducible refine hK _ ?_;clear hK K)|((with_reducible first|refine aI ?_ ?_|refine ai ?_ ?_);(· decide))|((with_reducible refine ci (fun hc=>?_) (fun hc=>?_)) <;> (try simp only [decide_eq_true_eq,decide_eq_false_iff_not,Bool.not_true,Bool.not_false,Bool.not_eq_true',Bool.not_eq_false'] at hc) <;> (try (exfalso;omega)))|(with_reducible refine ac (c2) ?_)|(with_reducible refine ac (c6) ?_)|(with_reducible refine ac (gA 2 hE ?_) ?_;(· simp [wkD,sg,inA,bs])))
 all_goals (clear hE c2 c6;simp_all)
set_option maxRecDepth 100000 in
set_option maxHeartbeats 16000000 in
theorem Ez (x f y : Wd) (e v : PE) (c : PC) (a : PA) (rs gs : List PE) (fs : List Wd) (b l : List PS') (ho : OkS (.mk 6 x f y e v c a rs gs fs b l)) (hbd : eJ b) (hel : eJ l) : fN (.mk 6 x f y e v c a rs gs fs b l):=by
 unfold fN
 rw [seS]
 simp only [reduceCtorEq,Int.reduceEq,if_true,if_false]
 have c8 : jF c:=jT c ho.2.2.2.2.2.2.1
 unfold jF at c8
 unfold eJ at hbd
 unfold eJ at hel
 have hE:=iH (.mk 0 x f y e v zC a rs gs fs [] []) ⟨⟨by decide,by decide⟩,ho.2.1,ho.2.2.1,ho.2.2.2.1,ho.2.2.2.2.1,ho.2.2.2.2.2.1,Cc,ho.2.2.2.2.2.2.2.1,ho.2.2.2.2.2.2.2.2.1,ho.2.2.2.2.2.2.2.2.2.1,ho.2.2.2.2.2.2.2.2.2.2.1,⟨Nat.zero_le _,trivial⟩,⟨Nat.zero_le _,trivial⟩⟩
 obtain ⟨B,hB⟩ : ∃ B,B = fA (.mk 0 x f y e v zC a rs gs fs [] []):=⟨_,rfl⟩
 rw [← hB] at hE
 obtain ⟨R,hR⟩ : ∃ R,R = seS (.mk 6 x f y e v c a rs gs fs b l):=⟨_,rfl⟩
 rw [seS] at hR
 simp only [reduceCtorEq,Int.reduceEq,if_true,if_false] at hR
 rw [← hR]
 generalize seC c = p8 at *
 generalize gW b = p15 at *
 generalize gW l = p16 at *
 have hR2 : R = (p8 && p15 && p16 && B):=by
  rw [hR,hB]
  clear hE hB hR
  simp only [fA,zE,zC,zA,dG,fi,fP,List.isEmpty_nil,List.length_nil,Nat.add_zero,decide_true,Bool.not_true,Bool.false_or,Nat.lt_irrefl,decide_false,Bool.or_false,Bool.not_false,Bool.true_and,Bool.and_true]
  try ac_rfl
 rw [hR2]
 clear hR hR2 hB ho
 obtain ⟨ek,en,ex,eks⟩:=e
 obtain ⟨vk,vn,vx,vks⟩:=v
 obtain ⟨ck,ce,cks⟩:=c
 obtain ⟨ak,⟨ack,ace,acks⟩,⟨aek,aen,aex,aeks⟩,⟨avk,avn,avx,avks⟩,af,an,aks⟩:=a
 simp only [psA,paA,bR,peA,bY,db,eT,dU,zE,zC,zA,List.cons_append,List.nil_append,List.map_nil,List.length_nil] at hE c8 ⊢
 refine aC [] Tryz.func115 rfl Tryz.ntmps115 (Nat.le_of_ble_eq_true rfl) (Nat.le_of_ble_eq_true rfl) fun w0 G0 B0 Pr hB0=>?_
 simp only [aJ,aB,List.cons_append,List.nil_append]
 repeat' (first|(with_reducible refine hY _ ?_;clear hY Y)|((with_reducible first|refine ar rfl (ay fun K' hK'=>aa ?_)|refine hK' _ (ab fun Y hY=>aa ?_)|refine ba rfl (ab fun Y hY=>aa ?_)|refine ab fun Y hY=>aa ?_|refine ay fun K' hK'=>aa ?_|refine ae tk0 bx (ab fun Y hY=>aa ?_)|refine aa ?_|refine aq ?_);(try clear hK' K');(try dsimp only [aop]);try simp only [go_sem,seval,bx,Tryz.results115])|(with_reducible first|refine ag ?_|refine aW rfl ?_|refine aK ?_|refine dc ?_ ?_|refine aj ?_|refine am ?_|refine aF fun K hK=>?_|refine ax ?_|refine av ?_|refine aR ?_|refine ap ?_|refine aA ?_)|(with_reducible refine hK _ ?_;clear hK K)|((with_reducible first|refine aI ?_ ?_|refine ai ?_ ?_);(· decide))|((with_reducible refine ci (fun hc=>?_) (fun hc=>?_)) <;> (try simp only [decide_eq_true_eq,decide_eq_false_iff_not,Bool.not_true,Bool.not_false,Bool.not_eq_true',Bool.not_eq_false'] at hc) <;> (try (exfalso;omega)))|(with_reducible refine ac (c8) ?_)|(with_reducible refine ac (hbd) ?_)|(with_reducible refine ac (hel) ?_)|(with_reducible refine ac (gA 2 hE ?_) ?_;(· simp [wkD,sg,inA,bs])))
 all_goals (clear hE c8 hbd hel;simp_all)
set_option maxRecDepth 100000 in
set_option maxHeartbeats 16000000 in
theorem EB (x f y : Wd) (e v : PE) (c : PC) (a : PA) (rs gs : List PE) (fs : List Wd) (b l : List PS') (ho : OkS (.mk 7 x f y e v c a rs gs fs b l)) (hbd : eJ b) (hel : eJ l) : fN (.mk 7 x f y e v c a rs gs fs b l):=by
 unfold fN
 rw [seS]
 simp only [reduceCtorEq,Int.reduceEq,if_true,if_false]
 have c8 : jF c:=jT c ho.2.2.2.2.2.2.1
 unfold jF at c8
 have c10 : mv a:=lw a ho.2.2.2.2.2.2.2.1
 unfold mv at c10
 unfold eJ at hbd
 have hE:=iH (.mk 0 x f y e v zC zA rs gs fs [] l) ⟨⟨by decide,by decide⟩,ho.2.1,ho.2.2.1,ho.2.2.2.1,ho.2.2.2.2.1,ho.2.2.2.2.2.1,Cc,FY,ho.2.2.2.2.2.2.2.2.1,ho.2.2.2.2.2.2.2.2.2.1,ho.2.2.2.2.2.2.2.2.2.2.1,⟨Nat.zero_le _,trivial⟩,ho.2.2.2.2.2.2.2.2.2.2.2.2⟩
 obtain ⟨B,hB⟩ : ∃ B,B = fA (.mk 0 x f y e v zC zA rs gs fs [] l):=⟨_,rfl⟩
 rw [← hB] at hE
 obtain ⟨R,hR⟩ : ∃ R,R = seS (.mk 7 x f y e v c a rs gs fs b l):=⟨_,rfl⟩
 rw [seS] at hR
 simp only [reduceCtorEq,Int.reduceEq,if_true,if_false] at hR
 rw [← hR]
 generalize seC c = p8 at *
 generalize seA a = p10 at *
 generalize gW b = p15 at *
 have hR2 : R = (p8 && p10 && p15 && B):=by
  rw [hR,hB]
  clear hE hB hR
  simp only [fA,zE,zC,zA,dG,fi,fP,List.isEmpty_nil,List.length_nil,Nat.add_zero,decide_true,Bool.not_true,Bool.false_or,Nat.lt_irrefl,decide_false,Bool.or_false,Bool.not_false,Bool.true_and,Bool.and_true]
  try ac_rfl
 rw [hR2]
 clear hR hR2 hB ho hel
 obtain ⟨ek,en,ex,eks⟩:=e
 obtain ⟨vk,vn,vx,vks⟩:=v
 obtain ⟨ck,ce,cks⟩:=c
 obtain ⟨ak,⟨ack,ace,acks⟩,⟨aek,aen,aex,aeks⟩,⟨avk,avn,avx,avks⟩,af,an,aks⟩:=a
 simp only [psA,paA,bR,peA,bY,db,eT,dU,zE,zC,zA,List.cons_append,List.nil_append,List.map_nil,List.length_nil] at hE c8 c10 ⊢
 refine aC [] Tryz.func115 rfl Tryz.ntmps115 (Nat.le_of_ble_eq_true rfl) (Nat.le_of_ble_eq_true rfl) fun w0 G0 B0 Pr hB0=>?_
 simp only [aJ,aB,List.cons_append,List.nil_append]
 repeat' (first|(with_reducible refine hY _ ?_;clear hY Y)|((with_reducible first|refine ar rfl (ay fun K' hK'=>aa ?_)|refine hK' _ (ab fun Y hY=>aa ?_)|refine ba rfl (ab fun Y hY=>aa ?_)|refine ab fun Y hY=>aa ?_|refine ay fun K' hK'=>aa ?_|refine ae tk0 bx (ab fun Y hY=>aa ?_)|refine aa ?_|refine aq ?_);(try clear hK' K');(try dsimp only [aop]);try simp only [go_sem,seval,bx,Tryz.results115])|(with_reducible first|refine ag ?_|refine aW rfl ?_|refine aK ?_|refine dc ?_ ?_|refine aj ?_|refine am ?_|refine aF fun K hK=>?_|refine ax ?_|refine av ?_|refine aR ?_|refine ap ?_|refine aA ?_)|(with_reducible refine hK _ ?_;clear hK K)|((with_reducible first|refine aI ?_ ?_|refine ai ?_ ?_);(· decide))|((with_reducible refine ci (fun hc=>?_) (fun hc=>?_)) <;> (try simp only [decide_eq_true_eq,decide_eq_false_iff_not,Bool.not_true,Bool.not_false,Bool.not_eq_true',Bool.not_eq_false'] at hc) <;> (try (exfalso;omega)))|(with_reducible refine ac (c8) ?_)|(with_reducible refine ac (c10) ?_)|(with_reducible refine ac (hbd) ?_)|(with_reducible refine ac (gA 2 hE ?_) ?_;(· simp [wkD,sg,inA,bs])))
 all_goals (clear hE c8 c10 hbd;simp_all)
set_option maxRecDepth 100000 in
set_option maxHeartbeats 16000000 in
theorem ED (x f y : Wd) (e v : PE) (c : PC) (a : PA) (rs gs : List PE) (fs : List Wd) (b l : List PS') (ho : OkS (.mk 8 x f y e v c a rs gs fs b l)) (hbd : eJ b) (hel : eJ l) : fN (.mk 8 x f y e v c a rs gs fs b l):=by
 unfold fN
 rw [seS]
 simp only [reduceCtorEq,Int.reduceEq,if_true,if_false]
 have c8 : jF c:=jT c ho.2.2.2.2.2.2.1
 unfold jF at c8
 have hE:=iH (.mk 0 x f y e v zC a rs gs fs b l) ⟨⟨by decide,by decide⟩,ho.2.1,ho.2.2.1,ho.2.2.2.1,ho.2.2.2.2.1,ho.2.2.2.2.2.1,Cc,ho.2.2.2.2.2.2.2.1,ho.2.2.2.2.2.2.2.2.1,ho.2.2.2.2.2.2.2.2.2.1,ho.2.2.2.2.2.2.2.2.2.2.1,ho.2.2.2.2.2.2.2.2.2.2.2.1,ho.2.2.2.2.2.2.2.2.2.2.2.2⟩
 obtain ⟨B,hB⟩ : ∃ B,B = fA (.mk 0 x f y e v zC a rs gs fs b l):=⟨_,rfl⟩
 rw [← hB] at hE
 obtain ⟨R,hR⟩ : ∃ R,R = seS (.mk 8 x f y e v c a rs gs fs b l):=⟨_,rfl⟩
 rw [seS] at hR
 simp only [reduceCtorEq,Int.reduceEq,if_true,if_false] at hR
 rw [← hR]
 generalize seC c = p8 at *
 have hR2 : R = (p8 && B):=by
  rw [hR,hB]
  clear hE hB hR
  simp only [fA,zE,zC,zA,dG,fi,fP,List.isEmpty_nil,List.length_nil,Nat.add_zero,decide_true,Bool.not_true,Bool.false_or,Nat.lt_irrefl,decide_false,Bool.or_false,Bool.not_false,Bool.true_and,Bool.and_true]
  try ac_rfl
 rw [hR2]
 clear hR hR2 hB ho hbd hel
 obtain ⟨ek,en,ex,eks⟩:=e
 obtain ⟨vk,vn,vx,vks⟩:=v
 obtain ⟨ck,ce,cks⟩:=c
 obtain ⟨ak,⟨ack,ace,acks⟩,⟨aek,aen,aex,aeks⟩,⟨avk,avn,avx,avks⟩,af,an,aks⟩:=a
 simp only [psA,paA,bR,peA,bY,db,eT,dU,zE,zC,zA,List.cons_append,List.nil_append,List.map_nil,List.length_nil] at hE c8 ⊢
 refine aC [] Tryz.func115 rfl Tryz.ntmps115 (Nat.le_of_ble_eq_true rfl) (Nat.le_of_ble_eq_true rfl) fun w0 G0 B0 Pr hB0=>?_
 simp only [aJ,aB,List.cons_append,List.nil_append]
 repeat' (first|(with_reducible refine hY _ ?_;clear hY Y)|((with_reducible first|refine ar rfl (ay fun K' hK'=>aa ?_)|refine hK' _ (ab fun Y hY=>aa ?_)|refine ba rfl (ab fun Y hY=>aa ?_)|refine ab fun Y hY=>aa ?_|refine ay fun K' hK'=>aa ?_|refine ae tk0 bx (ab fun Y hY=>aa ?_)|refine aa ?_|refine aq ?_);(try clear hK' K');(try dsimp only [aop]);try simp only [go_sem,seval,bx,Tryz.results115])|(with_reducible first|refine ag ?_|refine aW rfl ?_|refine aK ?_|refine dc ?_ ?_|refine aj ?_|refine am ?_|refine aF fun K hK=>?_|refine ax ?_|refine av ?_|refine aR ?_|refine ap ?_|refine aA ?_)|(with_reducible refine hK _ ?_;clear hK K)|((with_reducible first|refine aI ?_ ?_|refine ai ?_ ?_);(· decide))|((with_reducible refine ci (fun hc=>?_) (fun hc=>?_)) <;> (try simp only [decide_eq_true_eq,decide_eq_false_iff_not,Bool.not_true,Bool.not_false,Bool.not_eq_true',Bool.not_eq_false'] at hc) <;> (try (exfalso;omega)))|(with_reducible refine ac (c8) ?_)|(with_reducible refine ac (gA 2 hE ?_) ?_;(· simp [wkD,sg,inA,bs])))
 all_goals (clear hE c8;simp_all)
set_option maxRecDepth 100000 in
set_option maxHeartbeats 16000000 in
theorem EE (x f y : Wd) (e v : PE) (c : PC) (a : PA) (rs gs : List PE) (fs : List Wd) (b l : List PS') (ho : OkS (.mk 9 x f y e v c a rs gs fs b l)) (hbd : eJ b) (hel : eJ l) : fN (.mk 9 x f y e v c a rs gs fs b l):=by
 unfold fN
 rw [seS]
 simp only [reduceCtorEq,Int.reduceEq,if_true,if_false]
 have c1:=ja x (by have:=ho.2.1;unfold Lg at this;omega)
 have c12:=ja y (by have:=ho.2.2.2.1;unfold Lg at this;omega)
 have c13:=qC rs ho.2.2.2.2.2.2.2.2.1.1 ho.2.2.2.2.2.2.2.2.1.2
 have c14:=qC gs ho.2.2.2.2.2.2.2.2.2.1.1 ho.2.2.2.2.2.2.2.2.2.1.2
 have hE:=iH (.mk 0 [] f [] e v c a [] [] fs b l) ⟨⟨by decide,by decide⟩,(Nat.zero_le _),ho.2.2.1,(Nat.zero_le _),ho.2.2.2.2.1,ho.2.2.2.2.2.1,ho.2.2.2.2.2.2.1,ho.2.2.2.2.2.2.2.1,⟨Nat.zero_le _,trivial⟩,⟨Nat.zero_le _,trivial⟩,ho.2.2.2.2.2.2.2.2.2.2.1,ho.2.2.2.2.2.2.2.2.2.2.2.1,ho.2.2.2.2.2.2.2.2.2.2.2.2⟩
 obtain ⟨B,hB⟩ : ∃ B,B = fA (.mk 0 [] f [] e v c a [] [] fs b l):=⟨_,rfl⟩
 rw [← hB] at hE
 obtain ⟨R,hR⟩ : ∃ R,R = seS (.mk 9 x f y e v c a rs gs fs b l):=⟨_,rfl⟩
 rw [seS] at hR
 simp only [reduceCtorEq,Int.reduceEq,if_true,if_false] at hR
 rw [← hR]
 generalize dQ x = p1 at *
 generalize dQ y = p12 at *
 generalize gV rs = p13 at *
 generalize gV gs = p14 at *
 have hR2 : R = ((x.isEmpty || p1) && p12 && p13 && p14 && B):=by
  rw [hR,hB]
  clear hE hB hR
  simp only [fA,zE,zC,zA,dG,fi,fP,List.isEmpty_nil,List.length_nil,Nat.add_zero,decide_true,Bool.not_true,Bool.false_or,Nat.lt_irrefl,decide_false,Bool.or_false,Bool.not_false,Bool.true_and,Bool.and_true]
  try ac_rfl
 rw [hR2]
 clear hR hR2 hB ho hbd hel
 obtain ⟨ek,en,ex,eks⟩:=e
 obtain ⟨vk,vn,vx,vks⟩:=v
 obtain ⟨ck,ce,cks⟩:=c
 obtain ⟨ak,⟨ack,ace,acks⟩,⟨aek,aen,aex,aeks⟩,⟨avk,avn,avx,avks⟩,af,an,aks⟩:=a
 simp only [psA,paA,bR,peA,bY,db,eT,dU,zE,zC,zA,List.cons_append,List.nil_append,List.map_nil,List.length_nil] at hE ⊢
 have e1 : (x == ([] : Wd)) = x.isEmpty:=by cases x <;> rfl
 generalize x.isEmpty = q1 at *
 refine aC [] Tryz.func115 rfl Tryz.ntmps115 (Nat.le_of_ble_eq_true rfl) (Nat.le_of_ble_eq_true rfl) fun w0 G0 B0 Pr hB0=>?_
 simp only [aJ,aB,List.cons_append,List.nil_append]
 repeat' (first|(with_reducible refine hY _ ?_;clear hY Y)|((with_reducible first|refine ar rfl (ay fun K' hK'=>aa ?_)|refine hK' _ (ab fun Y hY=>aa ?_)|refine ba rfl (ab fun Y hY=>aa ?_)|refine ab fun Y hY=>aa ?_|refine ay fun K' hK'=>aa ?_|refine ae tk0 bx (ab fun Y hY=>aa ?_)|refine aa ?_|refine aq ?_);(try clear hK' K');(try dsimp only [aop]);try simp only [go_sem,seval,bx,Tryz.results115,e1])|(with_reducible first|refine ag ?_|refine aW rfl ?_|refine aK ?_|refine dc ?_ ?_|refine aj ?_|refine am ?_|refine aF fun K hK=>?_|refine ax ?_|refine av ?_|refine aR ?_|refine ap ?_|refine aA ?_)|(with_reducible refine hK _ ?_;clear hK K)|((with_reducible first|refine aI ?_ ?_|refine ai ?_ ?_);(· decide))|((with_reducible refine ci (fun hc=>?_) (fun hc=>?_)) <;> (try simp only [decide_eq_true_eq,decide_eq_false_iff_not,Bool.not_true,Bool.not_false,Bool.not_eq_true',Bool.not_eq_false'] at hc) <;> (try (exfalso;omega)))|(with_reducible refine ac (c1) ?_)|(with_reducible refine ac (c12) ?_)|(with_reducible refine ac (c13) ?_)|(with_reducible refine ac (c14) ?_)|(with_reducible refine ac (gA 2 hE ?_) ?_;(· simp [wkD,sg,inA,bs]))|(with_reducible refine bg (bN _) ?_))
 all_goals (clear hE c1 c12 c13 c14;simp_all)
set_option maxRecDepth 100000 in
set_option maxHeartbeats 16000000 in
theorem EG (k : Int) (x f y : Wd) (e v : PE) (c : PC) (a : PA) (rs gs : List PE) (fs : List Wd) (b l : List PS') (hk :∀ i : Int,0≤i→i≤9→¬ k = i) : fN (.mk k x f y e v c a rs gs fs b l):=by
 unfold fN
 have k0 : (k = 0) = False:=eq_false (hk 0 (by decide) (by decide))
 have k1 : (k = 1) = False:=eq_false (hk 1 (by decide) (by decide))
 have k2 : (k = 2) = False:=eq_false (hk 2 (by decide) (by decide))
 have k3 : (k = 3) = False:=eq_false (hk 3 (by decide) (by decide))
 have k4 : (k = 4) = False:=eq_false (hk 4 (by decide) (by decide))
 have k5 : (k = 5) = False:=eq_false (hk 5 (by decide) (by decide))
 have k6 : (k = 6) = False:=eq_false (hk 6 (by decide) (by decide))
 have k7 : (k = 7) = False:=eq_false (hk 7 (by decide) (by decide))
 have k8 : (k = 8) = False:=eq_false (hk 8 (by decide) (by decide))
 have k9 : (k = 9) = False:=eq_false (hk 9 (by decide) (by decide))
 rw [seS]
 simp only [k0,k1,k2,k3,k4,k5,k6,k7,k8,k9,if_false]
 obtain ⟨one,pu,len,g0,_,_,_,_,_,_,_,_,_,_,_,_⟩:=gL k x f y e v c a rs gs fs b l
 generalize psA (.mk k x f y e v c a rs gs fs b l) = SC at *
 refine aC [] Tryz.func115 rfl Tryz.ntmps115 (Nat.le_of_ble_eq_true rfl) (Nat.le_of_ble_eq_true rfl) fun w0 G0 B0 Pr hB0=>?_
 simp only [aJ,aB,List.cons_append,List.nil_append]
 repeat' (first|(with_reducible refine hY _ ?_;clear hY Y)|((with_reducible first|refine ar rfl (ay fun K' hK'=>aa ?_)|refine hK' _ (ab fun Y hY=>aa ?_));(try clear hK' K');(try dsimp only [aop]);try simp only [go_sem,seval,bx,Tryz.results115,one])|(with_reducible first|refine ag ?_|refine aj ?_|refine aF fun K hK=>?_)|((with_reducible refine cD 1 ?_ ?_);(· rfl))|((with_reducible refine bu 1 tk0 bx ?_ (ab fun Y hY=>aa ?_));(· rfl);(try dsimp only [aop]);try simp only [go_sem,seval,bx,Tryz.results115,one])|(with_reducible refine hK _ ?_;clear hK K))
 refine dH 10001 ⟨by decide,by decide⟩ rfl rfl pu (by simp only [go_sem,seval];exact rfl) ?_
 have ht : SC.take 35 = SC:=List.take_of_length_le (Nat.le_of_eq len)
 have hd : SC.drop 35 = []:=List.drop_eq_nil_of_le (Nat.le_of_eq len)
 repeat' (first|(with_reducible refine hY _ ?_;clear hY Y)|((with_reducible first|refine ar rfl (ay fun K' hK'=>aa ?_)|refine hK' _ (ab fun Y hY=>aa ?_)|refine ab fun Y hY=>aa ?_|refine ae tk0 bx (ab fun Y hY=>aa ?_)|refine aa ?_|refine aq ?_);(try clear hK' K');(try dsimp only [aop]);try simp only [go_sem,seval,bx,Tryz.results115,one,len,ht,hd,g0,k0,k1,k2,k3,k4,k5,k6,k7,k8,k9])|(with_reducible first|refine ag ?_|refine aj ?_|refine am ?_|refine aF fun K hK=>?_|refine av ?_|refine aZ ?_|refine bh ?_|refine ap ?_|refine aA ?_)|(with_reducible refine hK _ ?_;clear hK K)|((with_reducible refine ai ?_ ?_);(· decide)))
theorem wy (k : Int) (x f y : Wd) (e v : PE) (c : PC) (a : PA) (rs gs : List PE) (fs : List Wd) (b l : List PS') (ho : OkS (.mk k x f y e v c a rs gs fs b l)) (hbd : eJ b) (hel : eJ l) : fN (.mk k x f y e v c a rs gs fs b l):=by
 by_cases hk : 0≤k∧k≤9
 ·rcases (by omega : k = 0∨k = 1∨k = 2∨k = 3∨k = 4∨k = 5∨k = 6∨k = 7∨k = 8∨k = 9) with rfl|rfl|rfl|rfl|rfl|rfl|rfl|rfl|rfl|rfl
  ·exact Es x f y e v c a rs gs fs b l ho hbd hel
  ·exact Et x f y e v c a rs gs fs b l ho hbd hel
  ·exact Eu x f y e v c a rs gs fs b l ho hbd hel
  ·exact Ev x f y e v c a rs gs fs b l ho hbd hel
  ·exact Ew x f y e v c a rs gs fs b l ho hbd hel
  ·exact Ey x f y e v c a rs gs fs b l ho hbd hel
  ·exact Ez x f y e v c a rs gs fs b l ho hbd hel
  ·exact EB x f y e v c a rs gs fs b l ho hbd hel
  ·exact ED x f y e v c a rs gs fs b l ho hbd hel
  ·exact EE x f y e v c a rs gs fs b l ho hbd hel
 ·exact EG k x f y e v c a rs gs fs b l fun i h0 h9 e=>hk ⟨e ▸ h0,e ▸ h9⟩
mutual
theorem EF :∀ e,OkS e→fN e
|.mk k x f y e v c a rs gs fs b l,h=>wy k x f y e v c a rs gs fs b l h (ry b h.2.2.2.2.2.2.2.2.2.2.2.1.1 (oi b h.2.2.2.2.2.2.2.2.2.2.2.1.2)) (ry l h.2.2.2.2.2.2.2.2.2.2.2.2.1 (oi l h.2.2.2.2.2.2.2.2.2.2.2.2.2))
theorem oi :∀ l,jB l→∀ e ∈ l,fN e
|[],_=>fun e he=>absurd he List.not_mem_nil
|a :: l,h=>gg (EF a h.1) (oi l h.2)
end
theorem Cy (l : List PS') (hl : Lg l) (h : jB l) : eJ l:=ry l hl (oi l h)
end Go.Proofs.YtkjnkkmokojnpaaGreatDoor

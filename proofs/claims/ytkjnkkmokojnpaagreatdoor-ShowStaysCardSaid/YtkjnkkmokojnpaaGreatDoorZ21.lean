/- Statements, procedures, and their trees: every slice in a statement's own cells is told without its capacity. The parser in K: calls, what is told a name. The parser in K: blocks, statements. -/
import Derived.Test.YtkjnkkmokojnpaaGreatDoorZ6
import Derived.Test.YtkjnkkmokojnpaaGreatDoorZ4
import Derived.Test.YtkjnkkmokojnpaaGreatDoorZ20
namespace Go.Proofs.YtkjnkkmokojnpaaGreatDoor
set_option linter.unusedSimpArgs false
set_option linter.unusedVariables false
open Go.RowKit
mutual
def stW : St→List AV
 | .mk k x f y e v c a rs gs fs b l=>(([inA (k : Int),bs x,bs f,bs y] ++ exA e ++ exA v ++ coA c ++ asA a ++ [.sl (jU rs) rs.length .none,.sl (jU gs) gs.length .none,.sl (fs.map bs) fs.length .none,.sl (lQ b) b.length .none,.sl (lQ l) l.length .none] : List AV)).map (wkA 1)
def lQ : List St→List AV
 | []=>[]
 | e :: r=>stW e ++ lQ r
end
def stR (o1 o2 o3 o4 o5 : Own) : St→List AV
 | .mk k x f y e v c a rs gs fs b l=>[inA (k : Int),bs x,bs f,bs y] ++ exA e ++ exA v ++ coA c ++ asA a ++ [.sl (jU rs) rs.length o1,.sl (jU gs) gs.length o2,.sl (fs.map bs) fs.length o3,.sl (lQ b) b.length o4,.sl (lQ l) l.length o5]
theorem rJ {cs : List AV} {n : Nat} {o : Own} (h : o = .none∨o = .full) : wkA 1 (.sl cs n o) = .sl cs n .none:=by
 rcases h with rfl | rfl <;> rfl
theorem lP {o1 o2 o3 o4 o5 : Own} (h1 : o1 = .none∨o1 = .full) (h2 : o2 = .none∨o2 = .full) (h3 : o3 = .none∨o3 = .full) (h4 : o4 = .none∨o4 = .full) (h5 : o5 = .none∨o5 = .full) (s : St) :
  wkA 2 (.agg (stR o1 o2 o3 o4 o5 s)) = .agg (stW s):=by
 obtain ⟨k,x,f,y,e,v,c,a,rs,gs,fs,b,l⟩:=s
 show AV.agg ((stR o1 o2 o3 o4 o5 _).map (wkA 1)) = _
 simp only [stR,stW,List.map_append,List.map_cons,List.map_nil,rJ h1,rJ h2,rJ h3,rJ h4,rJ h5]
 rfl
def pcW (p : Pc) : List AV:=[bs p.name,.sl (p.params.map bs) p.params.length .none,.sl (p.ghosts.map bs) p.ghosts.length .none] ++ asA p.pre ++ asA p.post ++ [.sl (lQ p.body) p.body.length .none]
def oN : List Pc→List AV
 | []=>[]
 | e :: r=>pcW e ++ oN r
theorem Cx : ∀ e,(stW e).length = 35
 | .mk k x f y e v c a rs gs fs b l=>by simp [stW,wJ,tr,wF]
theorem Ck (p : Pc) : (pcW p).length = 34:=by simp [pcW,wF]
theorem vt : ∀ l : List St,(lQ l).length = l.length * 35
 | []=>rfl
 | e :: r=>by simp only [lQ,List.length_append,List.length_cons,Cx,vt r];omega
theorem u0 : ∀ l : List Pc,(oN l).length = l.length * 34
 | []=>rfl
 | e :: r=>by simp only [oN,List.length_append,List.length_cons,Ck,u0 r];omega
theorem vr : ∀ a b : List St,lQ (a ++ b) = lQ a ++ lQ b
 | [],b=>rfl
 | e :: r,b=>by simp only [List.cons_append,lQ,vr r b,List.append_assoc]
theorem uZ : ∀ a b : List Pc,oN (a ++ b) = oN a ++ oN b
 | [],b=>rfl
 | e :: r,b=>by simp only [List.cons_append,oN,uZ r b,List.append_assoc]
end Go.Proofs.YtkjnkkmokojnpaaGreatDoor
namespace Go.Proofs.YtkjnkkmokojnpaaGreatDoor
set_option linter.unusedSimpArgs false
set_option linter.unusedVariables false
open Go.RowKit
def gm : Nat→List Nat
 | 0=>[0]
 | 1=>[0,2]
 | 2=>[0,2]
 | 3=>[0,2,3]
 | 4=>[0,2,3]
 | 5=>[0,2,3]
 | 6=>[0,2,3]
 | 7=>[0,2,3]
 | 8=>[2,3]
 | _=>[]
set_option maxRecDepth 100000 in
set_option maxHeartbeats 4000000 in
theorem yT (s : PS) : AFn Tryz.prog 226 [.loc 20000 0] [pA s] (.agg (stW s.call.1)) [pA s.call.2]:=by
 refine iA (r:=.agg (stR .none .none .full .full .full s.call.1)) ?_ 2 (lP (.inl rfl) (.inl rfl) (.inr rfl) (.inr rfl) (.inr rfl) _)
 unfold PS.call
 simp only
 have h1:=ez s [99,97,108,108]
 have h2:=kP (s.due [[99,97,108,108]])
 generalize s.due [[99,97,108,108]] = s1 at *
 generalize s1.word 1 = q1 at *
 obtain ⟨x,s2⟩:=q1
 have h3:=ez s2 [40]
 simp only at h2 h3 ⊢
 have h4:=wR (s2.due [[40]]) [59]
 generalize s2.due [[40]] = s3 at *
 generalize s3.exprs [59] = q2 at *
 obtain ⟨rs,s4⟩:=q2
 have h5:=ez s4 [59]
 simp only at h4 h5 ⊢
 have h6:=wR (s4.due [[59]]) [41]
 generalize s4.due [[59]] = s5 at *
 generalize s5.exprs [41] = q3 at *
 obtain ⟨gs,s6⟩:=q3
 have h7:=ez s6 [41]
 simp only at h6 h7 ⊢
 generalize s6.due [[41]] = s7 at *
 refine aC [] Tryz.func226 rfl Tryz.ntmps226 (Nat.le_of_ble_eq_true rfl) (Nat.le_of_ble_eq_true rfl) fun w0 G0 B0 Pr hB0=>?_
 simp only [aJ,aB,List.cons_append,List.nil_append]
 repeat' (first | (with_reducible refine hY _ ?_;clear hY Y) | ((with_reducible first | refine ar rfl (ay fun K' hK'=>aa ?_) | refine hK' _ (ab fun Y hY=>aa ?_) | refine ae tk0 gm (ab fun Y hY=>aa ?_) | refine aa ?_ | refine aq ?_);(try clear hK' K');(try dsimp only [aop]);try simp only [go_sem,seval,gm,Tryz.results226]) | (with_reducible first | refine ag ?_ | refine aj ?_ | refine am ?_ | refine aF fun K hK=>?_ | refine aA ?_) | (with_reducible refine hK _ ?_;clear hK K) | (with_reducible refine ac (h1) ?_) | (with_reducible refine ac (h2) ?_) | (with_reducible refine ac (h3) ?_) | (with_reducible refine ac (h4) ?_) | (with_reducible refine ac (h5) ?_) | (with_reducible refine ac (h6) ?_) | (with_reducible refine ac (h7) ?_))
 all_goals first | rfl | exact ⟨rfl,rfl⟩
def bQ : Nat→List Nat
 | 0=>[0]
 | 1=>[0,2]
 | 2=>[0,2,3]
 | 3=>[0,2,3,4]
 | 4=>[0,2,3,4]
 | 5=>[0,2,3,4]
 | 6=>[0,2,3,4]
 | 7=>[0,2,3,4]
 | 8=>[0,2,3,4]
 | 9=>[0,2,3,4]
 | 10=>[0,2,3,4]
 | 11=>[0,2,3,4]
 | 12=>[0,2,3,4]
 | 13=>[0,2,3,4]
 | 14=>[0,2,3,4]
 | 15=>[0,2,3,4]
 | 16=>[0,2,3,4]
 | 17=>[2,3,4]
 | 18=>[2,3]
 | _=>[]
set_option maxRecDepth 100000 in
set_option maxHeartbeats 8000000 in
theorem Fh (s : PS) : AFn Tryz.prog 227 [.loc 20000 0] [pA s] (.agg (stW s.set.1)) [pA s.set.2]:=by
 unfold PS.set
 simp only
 have h1:=kP s
 generalize s.word 1 = q1 at *
 obtain ⟨x,s1⟩:=q1
 have h2:=ez s1 [58,61]
 simp only at h1 h2 ⊢
 generalize s1.due [[58,61]] = s2 at *
 cases c1 : s2.is [103,101,116]
 case true =>
  simp only [if_true]
  have h3:=eL c1
  have h4:=pQ s2.drop
  generalize s2.drop = s3 at *
  generalize s3.place = q2 at *
  obtain ⟨⟨ek0,en0,ex0,eks0⟩,f0,s4⟩:=q2
  refine iA (r:=.agg (stR .full .full .full .full .full _)) ?_ 2 (lP (.inr rfl) (.inr rfl) (.inr rfl) (.inr rfl) (.inr rfl) _)
  simp only [exA] at h4 ⊢
  refine aC [] Tryz.func227 rfl Tryz.ntmps227 (Nat.le_of_ble_eq_true rfl) (Nat.le_of_ble_eq_true rfl) fun w0 G0 B0 Pr hB0=>?_
  simp only [aJ,aB,List.cons_append,List.nil_append]
  repeat' (first | (with_reducible refine hY _ ?_;clear hY Y) | ((with_reducible first | refine ar rfl (ay fun K' hK'=>aa ?_) | refine hK' _ (ab fun Y hY=>aa ?_) | refine ab fun Y hY=>aa ?_ | refine ae tk0 bQ (ab fun Y hY=>aa ?_) | refine aa ?_ | refine aq ?_);(try clear hK' K');(try dsimp only [aop]);try simp only [go_sem,seval,bQ,Tryz.results227]) | (with_reducible first | refine ag ?_ | refine aj ?_ | refine am ?_ | refine aF fun K hK=>?_ | refine ax ?_ | refine aR ?_ | refine ap ?_ | refine aA ?_) | (with_reducible refine hK _ ?_;clear hK K) | ((with_reducible refine ai ?_ ?_);(· decide)) | (with_reducible refine ac (h1) ?_) | (with_reducible refine ac (h2) ?_) | (with_reducible refine ac (h3) ?_) | (with_reducible refine ac (h4) ?_))
  all_goals first | rfl | exact ⟨rfl,rfl⟩
 simp only [Bool.false_eq_true,if_false]
 have h3:=fw c1
 cases c2 : s2.is [110,101,119]
 case true =>
  simp only [if_true]
  have h4:=eL c2
  have h5:=ez s2.drop [40]
  generalize s2.drop = s3 at *
  have h6:=kP (s3.due [[40]])
  generalize s3.due [[40]] = s4 at *
  have hm0:=jy (s4.word 1).2
  generalize s4.word 1 = q2 at *
  obtain ⟨R,hR⟩ : ∃ R,R = mR [44] (fun s : PS=>s.word 1) FU [q2.1] q2.2:=⟨_,rfl⟩
  rw [← hR]
  refine iA (r:=.agg (stR .full .full .none .full .full _)) ?_ 2 (lP (.inr rfl) (.inr rfl) (.inl rfl) (.inr rfl) (.inr rfl) _)
  refine aC [] Tryz.func227 rfl Tryz.ntmps227 (Nat.le_of_ble_eq_true rfl) (Nat.le_of_ble_eq_true rfl) fun w0 G0 B0 Pr hB0=>?_
  simp only [aJ,aB,List.cons_append,List.nil_append]
  repeat' (first | (with_reducible refine hY _ ?_;clear hY Y) | ((with_reducible first | refine ar rfl (ay fun K' hK'=>aa ?_) | refine hK' _ (ab fun Y hY=>aa ?_) | refine ab fun Y hY=>aa ?_ | refine ae tk0 bQ (ab fun Y hY=>aa ?_) | refine aa ?_);(try clear hK' K');(try dsimp only [aop]);try simp only [go_sem,seval,bQ,Tryz.results227]) | (with_reducible first | refine ag ?_ | refine aj ?_ | refine am ?_ | refine aF fun K hK=>?_ | refine ax ?_ | refine av ?_ | refine ap ?_ | refine bW ?_) | (with_reducible refine hK _ ?_;clear hK K) | ((with_reducible refine ai ?_ ?_);(· decide)) | (with_reducible refine ac (h1) ?_) | (with_reducible refine ac (h2) ?_) | (with_reducible refine ac (h3) ?_) | (with_reducible refine ac (h4) ?_) | (with_reducible refine ac (h5) ?_) | (with_reducible refine ac (h6) ?_))
  refine jS (qc (b:=10043) (k0:=10003) (i:=32) 9 (by decide) (by decide) (by decide) rfl rfl rfl) ?_
  refine b9 (α:=Nat × List Wd × PS) (fun p=>[(0,.loc 20000 0),(2,.loc 10002 0),(3,.loc 10003 0),(4,bs x),(10002,.bc (stR .full .full .full .full .full stZ) 57),(10003,.bc (stR .full .full (.tok 10043) .full .full (.mk 4 [] [] [] exZ exZ coZ asZ [] [] p.2.1 [] [])) 57),(10043,.bt p.2.1.length 9),(20000,pA p.2.2)])
   (fun p=>mR [44] (fun s : PS=>s.word 1) p.1 p.2.1 p.2.2 = R∧p.2.2.mu < p.1∧p.2.1.length + p.1≤80000) (fun p=>p.1) (FU,[q2.1],q2.2) [0,2,3,4] ?_ ⟨hR.symm,hm0,(by simp [FU])⟩ ?_
  ·simp only [go_sem,seval] <;> rfl
  rintro ⟨f,out,s5⟩ ⟨hgo,hmu,hlen⟩ ih
  simp only [stR,stZ,lQ,asA,coA,exA,asZ,coZ,exZ,Bb,xP,jU,List.cons_append,List.nil_append,List.map_nil,List.length_nil] at ih hgo hmu hlen ⊢
  clear hR
  obtain ⟨f,rfl⟩ : ∃ f',f = f' + 1:=⟨f - 1,by omega⟩
  rw [mR] at hgo
  cases hc : s5.is [44]
  case true =>
   have h7:=eL hc
   have hm2:=dI hc
   have h8:=kP s5.drop
   have hm3:=gY s5.drop 1
   rw [if_pos hc] at hgo
   generalize s5.drop.word 1 = q5 at *
   repeat' (first | (with_reducible refine hY _ ?_;clear hY Y) | ((with_reducible first | refine ar rfl (ay fun K' hK'=>aa ?_) | refine hK' _ (ab fun Y hY=>aa ?_) | refine ab fun Y hY=>aa ?_ | refine ae tk0 bQ (ab fun Y hY=>aa ?_) | refine aa ?_ | refine cX rfl (dx fun K' hK'=>aa ?_) | refine hK' _ _ (ab fun Y hY=>aa ?_));(try clear hK' K');(try dsimp only [aop]);try simp only [go_sem,seval,bQ,Tryz.results227,List.length_map]) | (with_reducible first | refine ag ?_ | refine aj ?_ | refine am ?_ | refine aF fun K hK=>?_ | refine ax ?_ | refine aR ?_ | refine ap ?_ | refine aD ?_ | refine bV ?_ | refine eS fun K hK=>?_) | (with_reducible refine hK _ ?_;clear hK K) | (with_reducible refine hK _ _ ?_ ?_;(· kernel_rfl);clear hK K) | ((with_reducible refine ai ?_ ?_);(· decide)) | (with_reducible refine bU tk0 bQ ?_ ?_;(· kernel_rfl)) | (with_reducible refine br ?_ ?_;(· (try and_intros) <;> first | omega | assumption | (simp only [List.length_append,List.length_map,List.length_cons,List.length_nil] <;> omega))) | (with_reducible refine ac (h7) ?_) | (with_reducible refine ac (h8) ?_))
   refine bi [0,2,3,4] (by simp only [go_sem,seval];exact rfl) ?_
   refine dd (ih (f,out ++ [q5.1],q5.2) ⟨hgo,by simp only;omega,(by simp only [List.length_append,List.length_cons,List.length_nil];omega)⟩ (by simp only;omega)) ?_
   simp
  case false =>
   have h7:=fw hc
   rw [if_neg (by rw [hc];simp)] at hgo
   subst hgo
   have h8:=ez s5 [41]
   generalize s5.due [[41]] = s6 at *
   repeat' (first | (with_reducible refine hY _ ?_;clear hY Y) | ((with_reducible first | refine ar rfl (ay fun K' hK'=>aa ?_) | refine hK' _ (ab fun Y hY=>aa ?_) | refine ab fun Y hY=>aa ?_ | refine ae tk0 bQ (ab fun Y hY=>aa ?_) | refine aa ?_ | refine aq ?_);(try clear hK' K');(try dsimp only [aop]);try simp only [go_sem,seval,bQ,Tryz.results227]) | (with_reducible first | refine ag ?_ | refine aj ?_ | refine am ?_ | refine aF fun K hK=>?_ | refine av ?_ | refine cf ?_ | refine aR ?_ | refine bI ?_ | refine aA ?_ | refine bH ?_) | (with_reducible refine hK _ ?_;clear hK K) | ((with_reducible refine ai ?_ ?_);(· decide)) | (with_reducible refine ac (h7) ?_) | (with_reducible refine ac (h8) ?_))
   all_goals first | rfl | exact ⟨rfl,rfl⟩
 simp only [Bool.false_eq_true,if_false]
 have h4:=fw c2
 cases c3 : s2.is [99,97,108,108]
 case true =>
  simp only [if_true]
  have h5:=mJ c3
  have h6:=yT s2
  generalize s2.call = q2 at *
  obtain ⟨⟨k,n,f,y,⟨ek,en,ex,eks⟩,⟨vk,vn,vx,vks⟩,⟨ck,ce,cks⟩,⟨ak,⟨ack,ace,acks⟩,⟨aek,aen,aex,aeks⟩,⟨avk,avn,avx,avks⟩,af,an,aks⟩,rs,gs,fs,b,l⟩,s3⟩:=q2
  simp only [stW,exA,coA,asA,List.cons_append,List.nil_append,List.map_cons,List.map_nil,wkA,St.named] at h6 ⊢
  refine aC [] Tryz.func227 rfl Tryz.ntmps227 (Nat.le_of_ble_eq_true rfl) (Nat.le_of_ble_eq_true rfl) fun w0 G0 B0 Pr hB0=>?_
  simp only [aJ,aB,List.cons_append,List.nil_append]
  repeat' (first | (with_reducible refine hY _ ?_;clear hY Y) | ((with_reducible first | refine ar rfl (ay fun K' hK'=>aa ?_) | refine hK' _ (ab fun Y hY=>aa ?_) | refine ab fun Y hY=>aa ?_ | refine ae tk0 bQ (ab fun Y hY=>aa ?_) | refine aa ?_ | refine aq ?_);(try clear hK' K');(try dsimp only [aop]);try simp only [go_sem,seval,bQ,Tryz.results227]) | (with_reducible first | refine ag ?_ | refine aj ?_ | refine am ?_ | refine aF fun K hK=>?_ | refine ax ?_ | refine av ?_ | refine aR ?_ | refine ap ?_ | refine aA ?_) | (with_reducible refine hK _ ?_;clear hK K) | ((with_reducible refine ai ?_ ?_);(· decide)) | (with_reducible refine ac (h1) ?_) | (with_reducible refine ac (h2) ?_) | (with_reducible refine ac (h3) ?_) | (with_reducible refine ac (h4) ?_) | (with_reducible refine ac (h5) ?_) | (with_reducible refine ac (h6) ?_))
  all_goals first | rfl | exact ⟨rfl,rfl⟩
 simp only [Bool.false_eq_true,if_false]
 have h5:=nH c3
 have h6:=KM s2
 generalize fG s2 = q2 at *
 obtain ⟨⟨ek0,en0,ex0,eks0⟩,s3⟩:=q2
 refine iA (r:=.agg (stR .full .full .full .full .full _)) ?_ 2 (lP (.inr rfl) (.inr rfl) (.inr rfl) (.inr rfl) (.inr rfl) _)
 simp only [exA] at h6 ⊢
 refine aC [] Tryz.func227 rfl Tryz.ntmps227 (Nat.le_of_ble_eq_true rfl) (Nat.le_of_ble_eq_true rfl) fun w0 G0 B0 Pr hB0=>?_
 simp only [aJ,aB,List.cons_append,List.nil_append]
 repeat' (first | (with_reducible refine hY _ ?_;clear hY Y) | ((with_reducible first | refine ar rfl (ay fun K' hK'=>aa ?_) | refine hK' _ (ab fun Y hY=>aa ?_) | refine ab fun Y hY=>aa ?_ | refine ae tk0 bQ (ab fun Y hY=>aa ?_) | refine aa ?_ | refine aq ?_);(try clear hK' K');(try dsimp only [aop]);try simp only [go_sem,seval,bQ,Tryz.results227]) | (with_reducible first | refine ag ?_ | refine aj ?_ | refine am ?_ | refine aF fun K hK=>?_ | refine av ?_ | refine aR ?_ | refine ap ?_ | refine aA ?_) | (with_reducible refine hK _ ?_;clear hK K) | ((with_reducible refine ai ?_ ?_);(· decide)) | (with_reducible refine ac (h1) ?_) | (with_reducible refine ac (h2) ?_) | (with_reducible refine ac (h3) ?_) | (with_reducible refine ac (h4) ?_) | (with_reducible refine ac (h5) ?_) | (with_reducible refine ac (h6) ?_))
 all_goals first | rfl | exact ⟨rfl,rfl⟩
end Go.Proofs.YtkjnkkmokojnpaaGreatDoor
namespace Go.Proofs.YtkjnkkmokojnpaaGreatDoor
set_option linter.unusedSimpArgs false
set_option linter.unusedVariables false
open Go.RowKit
def StK (f : FuncId) (B : Nat) (g : PS→St × PS) : Prop:=∀ s : PS,s.mu < B→AFn Tryz.prog f [.loc 20000 0] [pA s] (.agg (stW (g s).1)) [pA (g s).2]
def BkK (f : FuncId) (B : Nat) (g : PS→List St × PS) : Prop:=∀ s : PS,s.mu < B→AFn Tryz.prog f [.loc 20000 0] [pA s] (.sl (lQ (g s).1) (g s).1.length .none) [pA (g s).2]
def cI : Nat→List Nat
 | 0=>[0]
 | 1=>[0]
 | 2=>[0]
 | 3=>[0,3]
 | 4=>[0,3]
 | 5=>[0,3]
 | 6=>[0,3]
 | 7=>[3]
 | _=>[]
set_option maxRecDepth 100000 in
set_option maxHeartbeats 8000000 in
theorem wI {B : Nat} {g : PS→St × PS} (hg : StK 195 B g) (hmu : ∀ s,(g s).2.mu≤s.mu) (hlt : ∀ s,s.mu < B→s.err = none→(g s).2.mu < s.mu) : BkK 133 B (qo g):=by
 intro s hs
 have h1:=qX s [123]
 have hm1:=jj s [123]
 unfold qo
 simp only
 generalize s.open' [123] = s1 at *
 obtain ⟨R,hR⟩ : ∃ R,R = mV g FU [] s1:=⟨_,rfl⟩
 rw [← hR]
 have hm0:=jy s1
 refine aC [] Tryz.func133 rfl Tryz.ntmps133 (Nat.le_of_ble_eq_true rfl) (Nat.le_of_ble_eq_true rfl) fun w0 G0 B0 Pr hB0=>?_
 simp only [aJ,aB,List.cons_append,List.nil_append]
 repeat' (first | (with_reducible refine hY _ ?_;clear hY Y) | ((with_reducible first | refine ar rfl (ay fun K' hK'=>aa ?_) | refine hK' _ (ab fun Y hY=>aa ?_) | refine ae tk0 cI (ab fun Y hY=>aa ?_) | refine aa ?_);(try clear hK' K');(try dsimp only [aop]);try simp only [go_sem,seval,cI,Tryz.results133]) | (with_reducible first | refine ag ?_ | refine aj ?_ | refine am ?_ | refine aF fun K hK=>?_ | refine ap ?_ | refine bW ?_) | (with_reducible refine hK _ ?_;clear hK K) | (with_reducible refine ac (h1) ?_))
 refine jS (nh (b:=10020) (t:=3) 57 (by decide) (by decide) rfl rfl) ?_
 refine b9 (α:=Nat × List St × PS) (fun p=>[(0,.loc 20000 0),(3,.sl (lQ p.2.1) p.2.1.length (.tok 10020)),(10020,.bt p.2.1.length 57),(20000,pA p.2.2)])
  (fun p=>mV g p.1 p.2.1 p.2.2 = R∧p.2.2.mu < p.1∧p.2.2.mu < B∧p.2.1.length + p.1≤80000) (fun p=>p.1) (FU,[],s1) [0,3] ?_ ⟨hR.symm,hm0,Nat.lt_of_le_of_lt hm1 hs,(by simp [FU])⟩ ?_
 ·simp only [go_sem,seval] <;> rfl
 rintro ⟨f,out,s2⟩ ⟨hgo,hmf,hmB,hlen⟩ ih
 simp only at ih hgo hmf hmB hlen ⊢
 clear hR
 obtain ⟨f,rfl⟩ : ∃ f',f = f' + 1:=⟨f - 1,by omega⟩
 rw [mV] at hgo
 cases he : s2.err with
 | some x =>
  obtain ⟨a,e⟩:=x
  rw [he] at hgo
  simp only [Option.isNone_some,Bool.false_and,Bool.false_eq_true,if_false] at hgo
  subst hgo
  have h2:=ez s2 [125]
  have h3:=kM (s2.due [[125]])
  generalize s2.due [[125]] = s3 at *
  simp only [pA,he,kf] at h2 ⊢
  repeat' (first | (with_reducible refine hY _ ?_;clear hY Y) | ((with_reducible first | refine ar rfl (ay fun K' hK'=>aa ?_) | refine hK' _ (ab fun Y hY=>aa ?_) | refine ba rfl (ab fun Y hY=>aa ?_) | refine ab fun Y hY=>aa ?_ | refine ae tk0 cI (ab fun Y hY=>aa ?_) | refine aa ?_ | refine aq ?_);(try clear hK' K');(try dsimp only [aop]);try simp only [go_sem,seval,cI,Tryz.results133]) | (with_reducible first | refine ag ?_ | refine aW rfl ?_ | refine dc ?_ ?_ | refine aj ?_ | refine am ?_ | refine aF fun K hK=>?_ | refine av ?_ | refine cf ?_ | refine bI ?_ | refine aA ?_ | refine bH ?_) | (with_reducible refine hK _ ?_;clear hK K) | ((with_reducible first | refine aI ?_ ?_ | refine ai ?_ ?_);(· decide)) | (with_reducible refine ac (h2) ?_) | (with_reducible refine ac (h3) ?_))
  all_goals first | rfl | exact ⟨rfl,rfl⟩
 | none =>
  rw [he] at hgo
  simp only [Option.isNone_none,Bool.true_and] at hgo
  cases hc : s2.is [125]
  case true =>
   rw [hc] at hgo
   simp only [Bool.not_true,Bool.false_eq_true,if_false] at hgo
   subst hgo
   have h1:=mJ hc
   have h2:=ez s2 [125]
   have h3:=kM (s2.due [[125]])
   generalize s2.due [[125]] = s3 at *
   simp only [pA,he,eW] at h1 h2 ⊢
   repeat' (first | (with_reducible refine hY _ ?_;clear hY Y) | ((with_reducible first | refine ar rfl (ay fun K' hK'=>aa ?_) | refine hK' _ (ab fun Y hY=>aa ?_) | refine ba rfl (ab fun Y hY=>aa ?_) | refine ab fun Y hY=>aa ?_ | refine ay fun K' hK'=>aa ?_ | refine ae tk0 cI (ab fun Y hY=>aa ?_) | refine aa ?_ | refine aq ?_);(try clear hK' K');(try dsimp only [aop]);try simp only [go_sem,seval,cI,Tryz.results133]) | (with_reducible first | refine ag ?_ | refine aK ?_ | refine aj ?_ | refine am ?_ | refine aF fun K hK=>?_ | refine av ?_ | refine cf ?_ | refine bI ?_ | refine aA ?_ | refine bH ?_) | (with_reducible refine hK _ ?_;clear hK K) | ((with_reducible first | refine aI ?_ ?_ | refine ai ?_ ?_);(· decide)) | (with_reducible refine ac (h1) ?_) | (with_reducible refine ac (h2) ?_) | (with_reducible refine ac (h3) ?_) | (with_reducible refine bg (ii) ?_))
   all_goals first | rfl | exact ⟨rfl,rfl⟩
  case false =>
   rw [hc] at hgo
   simp only [Bool.not_false,if_true] at hgo
   have h1:=nH hc
   have h2:=hg s2 hmB
   have hm2:=hlt s2 hmB he
   generalize g s2 = q at *
   obtain ⟨⟨k,nm,fl,cl,⟨ek,en,ex,eks⟩,⟨vk,vn,vx,vks⟩,⟨ck,ce,cks⟩,⟨ak,⟨ack,ace,acks⟩,⟨aek,aen,aex,aeks⟩,⟨avk,avn,avx,avks⟩,af,an,aks⟩,rs,gs,fs,bd0,el0⟩,s3⟩:=q
   simp only [stW,exA,coA,asA,List.cons_append,List.nil_append,List.map_cons,List.map_nil,wkA] at h2 hgo hm2
   simp only [pA,he,eW] at h1 h2 ⊢
   repeat' (first | (with_reducible refine hY _ ?_;clear hY Y) | ((with_reducible first | refine ar rfl (ay fun K' hK'=>aa ?_) | refine hK' _ (ab fun Y hY=>aa ?_) | refine ba rfl (ab fun Y hY=>aa ?_) | refine ab fun Y hY=>aa ?_ | refine ay fun K' hK'=>aa ?_ | refine ae tk0 cI (ab fun Y hY=>aa ?_) | refine aa ?_);(try clear hK' K');(try dsimp only [aop]);try simp only [go_sem,seval,cI,Tryz.results133,vt]) | (with_reducible first | refine ag ?_ | refine aK ?_ | refine aj ?_ | refine am ?_ | refine aF fun K hK=>?_ | refine ax ?_ | refine aR ?_ | refine ap ?_ | refine aD ?_) | (with_reducible refine hK _ ?_;clear hK K) | ((with_reducible first | refine aI ?_ ?_ | refine ai ?_ ?_);(· decide)) | (with_reducible refine br ?_ ?_;(· (try and_intros) <;> first | omega | assumption | (simp only [List.length_append,List.length_map,List.length_cons,List.length_nil] <;> omega))) | (with_reducible refine ac (h1) ?_) | (with_reducible refine ac (h2) ?_) | (with_reducible refine bg (ii) ?_))
   refine bi [0,3] (by simp only [go_sem,seval];exact rfl) ?_
   refine dd (ih (f,_,s3) ⟨hgo,by simp only;omega,by simp only;omega,(by simp only [List.length_append,List.length_cons,List.length_nil];omega)⟩ (by simp only;omega)) ?_
   simp only [vr,lQ,stW,exA,coA,asA,List.cons_append,List.nil_append,List.map_cons,List.map_nil,wkA,List.append_nil,List.length_append,List.length_cons,List.length_nil]
def bm : Nat→List Nat
 | 0=>[0]
 | 1=>[0,2]
 | 2=>[0,2,3]
 | 3=>[0,2,3]
 | 4=>[0,2,3]
 | 5=>[0,2,3]
 | 6=>[0,2,3]
 | 7=>[0,2,3]
 | 8=>[0,2,3]
 | 9=>[0,2,3]
 | 10=>[0,2,3]
 | 11=>[0,2,3]
 | 12=>[0,2,3]
 | 13=>[0,2,3]
 | 14=>[0,2,3]
 | 15=>[0,2,3]
 | 16=>[0,2,3]
 | 17=>[0,2,3]
 | 18=>[0,2,3]
 | 19=>[0,2,3]
 | 20=>[0,2,3]
 | 21=>[0,2,3]
 | 22=>[0,2,3]
 | 23=>[2,3]
 | 24=>[0,2,3]
 | 25=>[0,2,3]
 | 26=>[0,2,3]
 | 27=>[0,2,3]
 | 28=>[0,2,3]
 | 29=>[2,3]
 | 30=>[0,2,3]
 | 31=>[2,3]
 | _=>[]
set_option maxRecDepth 100000 in
set_option maxHeartbeats 16000000 in
theorem KT {B : Nat} {g : PS→List St × PS} (hg : BkK 133 B g) (hmu : ∀ s,(g s).2.mu≤s.mu) : StK 195 (B + 1) (rx g):=by
 intro s hs
 unfold rx
 cases c1 : s.is [115,107,105,112]
 case true =>
  simp only [if_true]
  have h1:=eL c1
  have h2:=ez s.drop [59]
  generalize s.drop = s1 at *
  generalize s1.due [[59]] = s2 at *
  refine iA (r:=.agg (stR .full .full .full .full .full _)) ?_ 2 (lP (.inr rfl) (.inr rfl) (.inr rfl) (.inr rfl) (.inr rfl) _)
  refine aC [] Tryz.func195 rfl Tryz.ntmps195 (Nat.le_of_ble_eq_true rfl) (Nat.le_of_ble_eq_true rfl) fun w0 G0 B0 Pr hB0=>?_
  simp only [aJ,aB,List.cons_append,List.nil_append]
  repeat' (first | (with_reducible refine hY _ ?_;clear hY Y) | ((with_reducible first | refine ar rfl (ay fun K' hK'=>aa ?_) | refine hK' _ (ab fun Y hY=>aa ?_) | refine ab fun Y hY=>aa ?_ | refine ae tk0 bm (ab fun Y hY=>aa ?_) | refine aa ?_ | refine aq ?_);(try clear hK' K');(try dsimp only [aop]);try simp only [go_sem,seval,bm,Tryz.results195]) | (with_reducible first | refine ag ?_ | refine aj ?_ | refine am ?_ | refine aF fun K hK=>?_ | refine ax ?_ | refine aR ?_ | refine ap ?_ | refine aD ?_ | refine aA ?_) | (with_reducible refine hK _ ?_;clear hK K) | ((with_reducible refine ai ?_ ?_);(· decide)) | (with_reducible refine ac (h1) ?_) | (with_reducible refine ac (h2) ?_))
  all_goals first | rfl | exact ⟨rfl,rfl⟩
 simp only [Bool.false_eq_true,if_false]
 have h1:=fw c1
 cases c2 : s.is [112,117,116]
 case true =>
  simp only [if_true]
  have h2:=eL c2
  have h3:=pQ s.drop
  generalize s.drop = s1 at *
  generalize s1.place = q at *
  obtain ⟨⟨ek0,en0,ex0,eks0⟩,f0,s3⟩:=q
  have h4:=ez s3 [58,61]
  simp only at h4 ⊢
  have h5:=KM (s3.due [[58,61]])
  generalize s3.due [[58,61]] = s4 at *
  generalize fG s4 = q2 at *
  obtain ⟨⟨vk0,vn0,vx0,vks0⟩,s5⟩:=q2
  have h6:=ez s5 [59]
  simp only [exA] at h3 h5 h6 ⊢
  generalize s5.due [[59]] = s6 at *
  refine iA (r:=.agg (stR .full .full .full .full .full _)) ?_ 2 (lP (.inr rfl) (.inr rfl) (.inr rfl) (.inr rfl) (.inr rfl) _)
  refine aC [] Tryz.func195 rfl Tryz.ntmps195 (Nat.le_of_ble_eq_true rfl) (Nat.le_of_ble_eq_true rfl) fun w0 G0 B0 Pr hB0=>?_
  simp only [aJ,aB,List.cons_append,List.nil_append]
  repeat' (first | (with_reducible refine hY _ ?_;clear hY Y) | ((with_reducible first | refine ar rfl (ay fun K' hK'=>aa ?_) | refine hK' _ (ab fun Y hY=>aa ?_) | refine ab fun Y hY=>aa ?_ | refine ae tk0 bm (ab fun Y hY=>aa ?_) | refine aa ?_ | refine aq ?_);(try clear hK' K');(try dsimp only [aop]);try simp only [go_sem,seval,bm,Tryz.results195]) | (with_reducible first | refine ag ?_ | refine aj ?_ | refine am ?_ | refine aF fun K hK=>?_ | refine ax ?_ | refine av ?_ | refine aR ?_ | refine ap ?_ | refine aA ?_) | (with_reducible refine hK _ ?_;clear hK K) | ((with_reducible refine ai ?_ ?_);(· decide)) | (with_reducible refine ac (h1) ?_) | (with_reducible refine ac (h2) ?_) | (with_reducible refine ac (h3) ?_) | (with_reducible refine ac (h4) ?_) | (with_reducible refine ac (h5) ?_) | (with_reducible refine ac (h6) ?_))
  all_goals first | rfl | exact ⟨rfl,rfl⟩
 simp only [Bool.false_eq_true,if_false]
 have h2:=fw c2
 cases c3 : s.is [102,114,101,101]
 case true =>
  simp only [if_true]
  have h3:=eL c3
  have h4:=pQ s.drop
  generalize s.drop = s1 at *
  generalize s1.place = q at *
  obtain ⟨⟨ek0,en0,ex0,eks0⟩,f0,s3⟩:=q
  have h5:=ez s3 [59]
  simp only [exA] at h4 h5 ⊢
  generalize s3.due [[59]] = s4 at *
  refine iA (r:=.agg (stR .full .full .full .full .full _)) ?_ 2 (lP (.inr rfl) (.inr rfl) (.inr rfl) (.inr rfl) (.inr rfl) _)
  refine aC [] Tryz.func195 rfl Tryz.ntmps195 (Nat.le_of_ble_eq_true rfl) (Nat.le_of_ble_eq_true rfl) fun w0 G0 B0 Pr hB0=>?_
  simp only [aJ,aB,List.cons_append,List.nil_append]
  repeat' (first | (with_reducible refine hY _ ?_;clear hY Y) | ((with_reducible first | refine ar rfl (ay fun K' hK'=>aa ?_) | refine hK' _ (ab fun Y hY=>aa ?_) | refine ab fun Y hY=>aa ?_ | refine ae tk0 bm (ab fun Y hY=>aa ?_) | refine aa ?_ | refine aq ?_);(try clear hK' K');(try dsimp only [aop]);try simp only [go_sem,seval,bm,Tryz.results195]) | (with_reducible first | refine ag ?_ | refine aj ?_ | refine am ?_ | refine aF fun K hK=>?_ | refine ax ?_ | refine av ?_ | refine aR ?_ | refine ap ?_ | refine aA ?_) | (with_reducible refine hK _ ?_;clear hK K) | ((with_reducible refine ai ?_ ?_);(· decide)) | (with_reducible refine ac (h1) ?_) | (with_reducible refine ac (h2) ?_) | (with_reducible refine ac (h3) ?_) | (with_reducible refine ac (h4) ?_) | (with_reducible refine ac (h5) ?_))
  all_goals first | rfl | exact ⟨rfl,rfl⟩
 simp only [Bool.false_eq_true,if_false]
 have h3:=fw c3
 cases c4 : s.is [97,115,115,101,114,116]
 case true =>
  simp only [if_true]
  have h4:=eL c4
  have h5:=KN s.drop
  generalize s.drop = s1 at *
  generalize lB s1 = q at *
  obtain ⟨⟨k0,e0,ks0⟩,s2⟩:=q
  have h6:=ez s2 [59]
  simp only [coA] at h5 h6 ⊢
  generalize s2.due [[59]] = s4 at *
  refine iA (r:=.agg (stR .full .full .full .full .full _)) ?_ 2 (lP (.inr rfl) (.inr rfl) (.inr rfl) (.inr rfl) (.inr rfl) _)
  refine aC [] Tryz.func195 rfl Tryz.ntmps195 (Nat.le_of_ble_eq_true rfl) (Nat.le_of_ble_eq_true rfl) fun w0 G0 B0 Pr hB0=>?_
  simp only [aJ,aB,List.cons_append,List.nil_append]
  repeat' (first | (with_reducible refine hY _ ?_;clear hY Y) | ((with_reducible first | refine ar rfl (ay fun K' hK'=>aa ?_) | refine hK' _ (ab fun Y hY=>aa ?_) | refine ab fun Y hY=>aa ?_ | refine ae tk0 bm (ab fun Y hY=>aa ?_) | refine aa ?_ | refine aq ?_);(try clear hK' K');(try dsimp only [aop]);try simp only [go_sem,seval,bm,Tryz.results195]) | (with_reducible first | refine ag ?_ | refine aj ?_ | refine am ?_ | refine aF fun K hK=>?_ | refine ax ?_ | refine av ?_ | refine aR ?_ | refine ap ?_ | refine aA ?_) | (with_reducible refine hK _ ?_;clear hK K) | ((with_reducible refine ai ?_ ?_);(· decide)) | (with_reducible refine ac (h1) ?_) | (with_reducible refine ac (h2) ?_) | (with_reducible refine ac (h3) ?_) | (with_reducible refine ac (h4) ?_) | (with_reducible refine ac (h5) ?_) | (with_reducible refine ac (h6) ?_))
  all_goals first | rfl | exact ⟨rfl,rfl⟩
 simp only [Bool.false_eq_true,if_false]
 have h4:=fw c4
 cases c5 : s.is [99,97,108,108]
 case true =>
  simp only [if_true]
  have h5:=mJ c5
  have h6:=yT s
  generalize s.call = q at *
  obtain ⟨⟨k,nm,fl,cl,⟨ek,en,ex,eks⟩,⟨vk,vn,vx,vks⟩,⟨ck,ce,cks⟩,⟨ak,⟨ack,ace,acks⟩,⟨aek,aen,aex,aeks⟩,⟨avk,avn,avx,avks⟩,af,an,aks⟩,rs,gs,fs,bd0,el0⟩,s3⟩:=q
  have h7:=ez s3 [59]
  simp only [stW,exA,coA,asA,List.cons_append,List.nil_append,List.map_cons,List.map_nil,wkA] at h6 h7 ⊢
  generalize s3.due [[59]] = s4 at *
  refine aC [] Tryz.func195 rfl Tryz.ntmps195 (Nat.le_of_ble_eq_true rfl) (Nat.le_of_ble_eq_true rfl) fun w0 G0 B0 Pr hB0=>?_
  simp only [aJ,aB,List.cons_append,List.nil_append]
  repeat' (first | (with_reducible refine hY _ ?_;clear hY Y) | ((with_reducible first | refine ar rfl (ay fun K' hK'=>aa ?_) | refine hK' _ (ab fun Y hY=>aa ?_) | refine ab fun Y hY=>aa ?_ | refine ae tk0 bm (ab fun Y hY=>aa ?_) | refine aa ?_ | refine aq ?_);(try clear hK' K');(try dsimp only [aop]);try simp only [go_sem,seval,bm,Tryz.results195]) | (with_reducible first | refine ag ?_ | refine aj ?_ | refine am ?_ | refine aF fun K hK=>?_ | refine ax ?_ | refine av ?_ | refine aR ?_ | refine ap ?_ | refine aA ?_) | (with_reducible refine hK _ ?_;clear hK K) | ((with_reducible refine ai ?_ ?_);(· decide)) | (with_reducible refine ac (h1) ?_) | (with_reducible refine ac (h2) ?_) | (with_reducible refine ac (h3) ?_) | (with_reducible refine ac (h4) ?_) | (with_reducible refine ac (h5) ?_) | (with_reducible refine ac (h6) ?_) | (with_reducible refine ac (h7) ?_))
  all_goals first | rfl | exact ⟨rfl,rfl⟩
 simp only [Bool.false_eq_true,if_false]
 have h5:=nH c5
 have h6:=wc s 1
 cases c6 : s.kind 1
 case true =>
  rw [c6] at h6
  simp only [if_true]
  have h7:=Fh s
  generalize s.set = q at *
  obtain ⟨⟨k,nm,fl,cl,⟨ek,en,ex,eks⟩,⟨vk,vn,vx,vks⟩,⟨ck,ce,cks⟩,⟨ak,⟨ack,ace,acks⟩,⟨aek,aen,aex,aeks⟩,⟨avk,avn,avx,avks⟩,af,an,aks⟩,rs,gs,fs,bd0,el0⟩,s3⟩:=q
  have h8:=ez s3 [59]
  simp only [stW,exA,coA,asA,List.cons_append,List.nil_append,List.map_cons,List.map_nil,wkA] at h7 h8 ⊢
  generalize s3.due [[59]] = s4 at *
  refine aC [] Tryz.func195 rfl Tryz.ntmps195 (Nat.le_of_ble_eq_true rfl) (Nat.le_of_ble_eq_true rfl) fun w0 G0 B0 Pr hB0=>?_
  simp only [aJ,aB,List.cons_append,List.nil_append]
  repeat' (first | (with_reducible refine hY _ ?_;clear hY Y) | ((with_reducible first | refine ar rfl (ay fun K' hK'=>aa ?_) | refine hK' _ (ab fun Y hY=>aa ?_) | refine ab fun Y hY=>aa ?_ | refine ae tk0 bm (ab fun Y hY=>aa ?_) | refine aa ?_ | refine aq ?_);(try clear hK' K');(try dsimp only [aop]);try simp only [go_sem,seval,bm,Tryz.results195]) | (with_reducible first | refine ag ?_ | refine aj ?_ | refine am ?_ | refine aF fun K hK=>?_ | refine ax ?_ | refine av ?_ | refine aR ?_ | refine ap ?_ | refine aA ?_) | (with_reducible refine hK _ ?_;clear hK K) | ((with_reducible refine ai ?_ ?_);(· decide)) | (with_reducible refine ac (h1) ?_) | (with_reducible refine ac (h2) ?_) | (with_reducible refine ac (h3) ?_) | (with_reducible refine ac (h4) ?_) | (with_reducible refine ac (h5) ?_) | (with_reducible refine ac (h6) ?_) | (with_reducible refine ac (h7) ?_) | (with_reducible refine ac (h8) ?_))
  all_goals first | rfl | exact ⟨rfl,rfl⟩
 rw [c6] at h6
 simp only [Bool.false_eq_true,if_false]
 cases c7 : s.is [105,102]
 case true =>
  simp only [if_true]
  have h7:=eL c7
  have hm1:=dI c7
  have h8:=KN s.drop
  have hm2:=gR s.drop
  generalize s.drop = s1 at *
  generalize lB s1 = q at *
  obtain ⟨⟨k0,e0,ks0⟩,s2⟩:=q
  simp only at hm2 h8 ⊢
  have h9:=hg s2 (by omega)
  have hm3:=hmu s2
  generalize g s2 = q2 at *
  obtain ⟨bd,s3⟩:=q2
  have h10:=ez s3 [101,108,115,101]
  have hm4:=da [[101,108,115,101]] s3
  simp only at hm3 hm4 h9 h10 ⊢
  generalize s3.due [[101,108,115,101]] = s4 at *
  have h11:=hg s4 (by omega)
  generalize g s4 = q3 at *
  obtain ⟨el,s5⟩:=q3
  simp only [coA] at h8 h11 ⊢
  refine iA (r:=.agg (stR .full .full .full .none .none _)) ?_ 2 (lP (.inr rfl) (.inr rfl) (.inr rfl) (.inl rfl) (.inl rfl) _)
  refine aC [] Tryz.func195 rfl Tryz.ntmps195 (Nat.le_of_ble_eq_true rfl) (Nat.le_of_ble_eq_true rfl) fun w0 G0 B0 Pr hB0=>?_
  simp only [aJ,aB,List.cons_append,List.nil_append]
  repeat' (first | (with_reducible refine hY _ ?_;clear hY Y) | ((with_reducible first | refine ar rfl (ay fun K' hK'=>aa ?_) | refine hK' _ (ab fun Y hY=>aa ?_) | refine ab fun Y hY=>aa ?_ | refine ae tk0 bm (ab fun Y hY=>aa ?_) | refine aa ?_ | refine aq ?_);(try clear hK' K');(try dsimp only [aop]);try simp only [go_sem,seval,bm,Tryz.results195]) | (with_reducible first | refine ag ?_ | refine aj ?_ | refine am ?_ | refine aF fun K hK=>?_ | refine ax ?_ | refine av ?_ | refine aZ ?_ | refine bh ?_ | refine ap ?_ | refine aA ?_) | (with_reducible refine hK _ ?_;clear hK K) | ((with_reducible refine ai ?_ ?_);(· decide)) | (with_reducible refine ac (h1) ?_) | (with_reducible refine ac (h2) ?_) | (with_reducible refine ac (h3) ?_) | (with_reducible refine ac (h4) ?_) | (with_reducible refine ac (h5) ?_) | (with_reducible refine ac (h6) ?_) | (with_reducible refine ac (h7) ?_) | (with_reducible refine ac (h8) ?_) | (with_reducible refine ac (h9) ?_) | (with_reducible refine ac (h10) ?_) | (with_reducible refine ac (h11) ?_))
  all_goals first | rfl | exact ⟨rfl,rfl⟩
 simp only [Bool.false_eq_true,if_false]
 have h7:=fw c7
 cases c8 : s.is [119,104,105,108,101]
 case true =>
  simp only [if_true]
  have h8:=eL c8
  have hm1:=dI c8
  have h9:=KN s.drop
  have hm2:=gR s.drop
  generalize s.drop = s1 at *
  generalize lB s1 = q at *
  obtain ⟨⟨k0,e0,ks0⟩,s2⟩:=q
  have h10:=ez s2 [105,110,118,97,114,105,97,110,116]
  have hm3:=da [[105,110,118,97,114,105,97,110,116]] s2
  simp only at hm2 hm3 h9 h10 ⊢
  generalize s2.due [[105,110,118,97,114,105,97,110,116]] = s3 at *
  have h11:=KO s3
  have hm4:=lu s3
  generalize nk s3 = q2 at *
  obtain ⟨⟨ak,⟨ack,ace,acks⟩,⟨aek,aen,aex,aeks⟩,⟨avk,avn,avx,avks⟩,af,an,aks⟩,s4⟩:=q2
  simp only at hm4 ⊢
  have h12:=hg s4 (by omega)
  generalize g s4 = q3 at *
  obtain ⟨bd,s5⟩:=q3
  simp only [coA,asA,exA,List.cons_append,List.nil_append] at h9 h11 h12 ⊢
  refine iA (r:=.agg (stR .full .full .full .none .full _)) ?_ 2 (lP (.inr rfl) (.inr rfl) (.inr rfl) (.inl rfl) (.inr rfl) _)
  refine aC [] Tryz.func195 rfl Tryz.ntmps195 (Nat.le_of_ble_eq_true rfl) (Nat.le_of_ble_eq_true rfl) fun w0 G0 B0 Pr hB0=>?_
  simp only [aJ,aB,List.cons_append,List.nil_append]
  repeat' (first | (with_reducible refine hY _ ?_;clear hY Y) | ((with_reducible first | refine ar rfl (ay fun K' hK'=>aa ?_) | refine hK' _ (ab fun Y hY=>aa ?_) | refine ab fun Y hY=>aa ?_ | refine ae tk0 bm (ab fun Y hY=>aa ?_) | refine aa ?_ | refine aq ?_);(try clear hK' K');(try dsimp only [aop]);try simp only [go_sem,seval,bm,Tryz.results195]) | (with_reducible first | refine ag ?_ | refine aj ?_ | refine am ?_ | refine aF fun K hK=>?_ | refine ax ?_ | refine av ?_ | refine aZ ?_ | refine bh ?_ | refine ap ?_ | refine aA ?_) | (with_reducible refine hK _ ?_;clear hK K) | ((with_reducible refine ai ?_ ?_);(· decide)) | (with_reducible refine ac (h1) ?_) | (with_reducible refine ac (h2) ?_) | (with_reducible refine ac (h3) ?_) | (with_reducible refine ac (h4) ?_) | (with_reducible refine ac (h5) ?_) | (with_reducible refine ac (h6) ?_) | (with_reducible refine ac (h7) ?_) | (with_reducible refine ac (h8) ?_) | (with_reducible refine ac (h9) ?_) | (with_reducible refine ac (h10) ?_) | (with_reducible refine ac (h11) ?_) | (with_reducible refine ac (h12) ?_))
  all_goals first | rfl | exact ⟨rfl,rfl⟩
 simp only [Bool.false_eq_true,if_false]
 have h8:=fw c8
 have h9:=mH s 11
 have h10:=ez (s.fail 11) [59]
 generalize s.fail 11 = s1 at *
 generalize s1.due [[59]] = s2 at *
 refine iA (r:=.agg (stR .full .full .full .full .full _)) ?_ 2 (lP (.inr rfl) (.inr rfl) (.inr rfl) (.inr rfl) (.inr rfl) _)
 refine aC [] Tryz.func195 rfl Tryz.ntmps195 (Nat.le_of_ble_eq_true rfl) (Nat.le_of_ble_eq_true rfl) fun w0 G0 B0 Pr hB0=>?_
 simp only [aJ,aB,List.cons_append,List.nil_append]
 repeat' (first | (with_reducible refine hY _ ?_;clear hY Y) | ((with_reducible first | refine ar rfl (ay fun K' hK'=>aa ?_) | refine hK' _ (ab fun Y hY=>aa ?_) | refine ab fun Y hY=>aa ?_ | refine ae tk0 bm (ab fun Y hY=>aa ?_) | refine aa ?_ | refine aq ?_);(try clear hK' K');(try dsimp only [aop]);try simp only [go_sem,seval,bm,Tryz.results195]) | (with_reducible first | refine ag ?_ | refine aj ?_ | refine am ?_ | refine aF fun K hK=>?_ | refine av ?_ | refine aR ?_ | refine ap ?_ | refine aA ?_) | (with_reducible refine hK _ ?_;clear hK K) | ((with_reducible refine ai ?_ ?_);(· decide)) | (with_reducible refine ac (h1) ?_) | (with_reducible refine ac (h2) ?_) | (with_reducible refine ac (h3) ?_) | (with_reducible refine ac (h4) ?_) | (with_reducible refine ac (h5) ?_) | (with_reducible refine ac (h6) ?_) | (with_reducible refine ac (h7) ?_) | (with_reducible refine ac (h8) ?_) | (with_reducible refine ac (h9) ?_) | (with_reducible refine ac (h10) ?_))
 all_goals first | rfl | exact ⟨rfl,rfl⟩
theorem vq : ∀ (f : Nat) (s : PS),s.mu < f→s.err = none→(vp f s).2.mu < s.mu
 | 0,s,h,_=>absurd h (Nat.not_lt_zero _)
 | f + 1,s,_,h=>AF (lW (kr f)) h
theorem AH : ∀ f,StK 195 f (vp f)
 | 0=>fun s hs=>absurd hs (Nat.not_lt_zero _)
 | f + 1=>KT (wI (AH f) (kr f) (vq f)) (lW (kr f))
theorem Bh (s : PS) : AFn Tryz.prog 133 [.loc 20000 0] [pA s] (.sl (lQ (ou s).1) (ou s).1.length .none) [pA (ou s).2] :=
 wI (AH FU) (kr FU) (vq FU) s (jy s)
end Go.Proofs.YtkjnkkmokojnpaaGreatDoor

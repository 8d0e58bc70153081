/- norm.Is in K: is a formula normalized? What is normalized is small, its opposites have a kid: plain. prop.Check of whatever clauses in K. -/
import Derived.Test.YtmpdocplcgbpkaaGreatDoorZ20
import Derived.Test.YtmpdocplcgbpkaaGreatDoorZ7
import Derived.Test.YtmpdocplcgbpkaaGreatDoorZ14
import Derived.Test.YtmpdocplcgbpkaaGreatDoorZ10
namespace Go.Proofs.YtmpdocplcgbpkaaGreatDoor
set_option linter.unusedSimpArgs false
set_option linter.unusedVariables false
open Go.RowKit
def mn (l : Ln) : Bool:=cY l && (decide (0 < l.t.length) && (decide (0 < kA l.t) && decide (eB 0 l.t = 1)))
def bW : Nat→List Nat
 | 0=>[0]
 | 1=>[1]
 | _=>[]
set_option maxRecDepth 100000 in
set_option maxHeartbeats 8000000 in
theorem qa (l : Ln) : AFn Tryz.prog 105 [.agg (lnA l)] [] (.c (.bool (mn l))) []:=by
 have hck:=d3 l
 unfold ip at hck
 unfold mn
 cases hb : cY l with
 | false =>
  rw [hb,if_neg (by decide),di] at hck
  rw [Bool.false_and]
  clear hb
  refine aD [] Tryz.func105 rfl Tryz.ntmps105 (Nat.le_of_ble_eq_true rfl) (Nat.le_of_ble_eq_true rfl) fun w0 G0 B0 Pr hB0=>?_
  simp only [aO,aA,List.cons_append,List.nil_append]
  repeat' (first | (with_reducible refine hY _ ?_;clear hY Y) | ((with_reducible first | refine an rfl (ar fun K' hK'=>aa ?_) | refine hK' _ (ab fun Y hY=>aa ?_) | refine bl rfl (ab fun Y hY=>aa ?_) | refine ab fun Y hY=>aa ?_ | refine ae tk0 bW (ab fun Y hY=>aa ?_) | refine aa ?_ | refine ao ?_);(try clear hK' K');(try dsimp only [aop]);try simp only [go_sem,seval,-Int.reduceNatCast,-Int.reduceNatCast',bW,Tryz.results105]) | (with_reducible first | refine af ?_ | refine bh rfl ?_ | refine cS ?_ ?_ | refine ai ?_ | refine aj ?_ | refine ay fun K hK=>?_ | refine au ?_) | (with_reducible refine hK _ ?_;clear hK K) | ((with_reducible refine aG ?_ ?_);(· decide)) | (with_reducible refine ah (hck) ?_))
 | true =>
 rw [hb,if_pos rfl,cR] at hck
 rw [Bool.true_and]
 have hg:=zS l hb
 clear hb
 obtain ⟨c,t⟩:=l
 simp only at hg ⊢
 by_cases h0 : 0 < t.length
 ·rw [decide_eq_true h0,Bool.true_and]
  have h0' : ((0 : Int) < (t.length : Int)) = True:=eq_true (by omega)
  have hg1:=tc h0
  have hfl:=cl t
  have hh : kA t = t[0].2:=by unfold kA;rw [List.getD_eq_getElem?_getD,List.getElem?_eq_getElem h0];rfl
  rw [hh]
  generalize t[0].2 = x at *
  by_cases hx : 0 < x
  ·rw [decide_eq_true hx,Bool.true_and]
   have hx' : (0 < x) = True:=eq_true hx
   generalize eB 0 t = g at *
   by_cases hg1' : g = 1
   ·rw [decide_eq_true hg1']
    subst hg1'
    have hg2 : AFn Tryz.prog 118 [.agg (lnA ⟨c,t⟩)] [] (inA 1) []:=hg
    clear hg
    refine aD [] Tryz.func105 rfl Tryz.ntmps105 (Nat.le_of_ble_eq_true rfl) (Nat.le_of_ble_eq_true rfl) fun w0 G0 B0 Pr hB0=>?_
    simp only [aO,aA,List.cons_append,List.nil_append]
    repeat' (first | (with_reducible refine hY _ ?_;clear hY Y) | ((with_reducible first | refine an rfl (ar fun K' hK'=>aa ?_) | refine hK' _ (ab fun Y hY=>aa ?_) | refine bl rfl (ab fun Y hY=>aa ?_) | refine ab fun Y hY=>aa ?_ | refine ar fun K' hK'=>aa ?_ | refine ae tk0 bW (ab fun Y hY=>aa ?_) | refine aa ?_ | refine ao ?_);(try clear hK' K');(try dsimp only [aop]);try simp only [go_sem,seval,-Int.reduceNatCast,-Int.reduceNatCast',bW,Tryz.results105,h0',hg1,hfl,hx']) | (with_reducible first | refine af ?_ | refine aL ?_ | refine ai ?_ | refine aj ?_ | refine ay fun K hK=>?_ | refine au ?_) | (with_reducible refine hK _ ?_;clear hK K) | ((with_reducible refine aG ?_ ?_);(· decide)) | (with_reducible refine bp ?_ ?_;(· (try and_intros) <;> first | omega | assumption | (simp only [List.length_append,List.length_map,List.length_cons,List.length_nil] <;> omega))) | (with_reducible refine ah (hck) ?_) | (with_reducible refine ce (dM) ?_) | (with_reducible refine ah (hg2) ?_))
   ·rw [decide_eq_false hg1']
    have hgz : ((g : Int) = 1) = False:=eq_false (by omega)
    refine aD [] Tryz.func105 rfl Tryz.ntmps105 (Nat.le_of_ble_eq_true rfl) (Nat.le_of_ble_eq_true rfl) fun w0 G0 B0 Pr hB0=>?_
    simp only [aO,aA,List.cons_append,List.nil_append]
    repeat' (first | (with_reducible refine hY _ ?_;clear hY Y) | ((with_reducible first | refine an rfl (ar fun K' hK'=>aa ?_) | refine hK' _ (ab fun Y hY=>aa ?_) | refine bl rfl (ab fun Y hY=>aa ?_) | refine ab fun Y hY=>aa ?_ | refine ar fun K' hK'=>aa ?_ | refine ae tk0 bW (ab fun Y hY=>aa ?_) | refine aa ?_ | refine ao ?_);(try clear hK' K');(try dsimp only [aop]);try simp only [go_sem,seval,-Int.reduceNatCast,-Int.reduceNatCast',bW,Tryz.results105,h0',hg1,hfl,hx',hgz]) | (with_reducible first | refine af ?_ | refine aL ?_ | refine ai ?_ | refine aj ?_ | refine ay fun K hK=>?_ | refine au ?_) | (with_reducible refine hK _ ?_;clear hK K) | ((with_reducible refine aG ?_ ?_);(· decide)) | (with_reducible refine bp ?_ ?_;(· (try and_intros) <;> first | omega | assumption | (simp only [List.length_append,List.length_map,List.length_cons,List.length_nil] <;> omega))) | (with_reducible refine ah (hck) ?_) | (with_reducible refine ce (dM) ?_) | (with_reducible refine ah (hg) ?_))
  ·rw [decide_eq_false hx,Bool.false_and]
   have hx' : (0 < x) = False:=eq_false hx
   refine aD [] Tryz.func105 rfl Tryz.ntmps105 (Nat.le_of_ble_eq_true rfl) (Nat.le_of_ble_eq_true rfl) fun w0 G0 B0 Pr hB0=>?_
   simp only [aO,aA,List.cons_append,List.nil_append]
   repeat' (first | (with_reducible refine hY _ ?_;clear hY Y) | ((with_reducible first | refine an rfl (ar fun K' hK'=>aa ?_) | refine hK' _ (ab fun Y hY=>aa ?_) | refine bl rfl (ab fun Y hY=>aa ?_) | refine ab fun Y hY=>aa ?_ | refine ar fun K' hK'=>aa ?_ | refine ae tk0 bW (ab fun Y hY=>aa ?_) | refine aa ?_ | refine ao ?_);(try clear hK' K');(try dsimp only [aop]);try simp only [go_sem,seval,-Int.reduceNatCast,-Int.reduceNatCast',bW,Tryz.results105,h0',hg1,hfl,hx']) | (with_reducible first | refine af ?_ | refine bh rfl ?_ | refine aL ?_ | refine cS ?_ ?_ | refine ai ?_ | refine aj ?_ | refine ay fun K hK=>?_ | refine au ?_) | (with_reducible refine hK _ ?_;clear hK K) | ((with_reducible refine aG ?_ ?_);(· decide)) | (with_reducible refine bp ?_ ?_;(· (try and_intros) <;> first | omega | assumption | (simp only [List.length_append,List.length_map,List.length_cons,List.length_nil] <;> omega))) | (with_reducible refine ah (hck) ?_) | (with_reducible refine ce (dM) ?_))
 ·rw [decide_eq_false h0,Bool.false_and]
  have h0' : ((0 : Int) < (t.length : Int)) = False:=eq_false (by omega)
  refine aD [] Tryz.func105 rfl Tryz.ntmps105 (Nat.le_of_ble_eq_true rfl) (Nat.le_of_ble_eq_true rfl) fun w0 G0 B0 Pr hB0=>?_
  simp only [aO,aA,List.cons_append,List.nil_append]
  repeat' (first | (with_reducible refine hY _ ?_;clear hY Y) | ((with_reducible first | refine an rfl (ar fun K' hK'=>aa ?_) | refine hK' _ (ab fun Y hY=>aa ?_) | refine bl rfl (ab fun Y hY=>aa ?_) | refine ab fun Y hY=>aa ?_ | refine ar fun K' hK'=>aa ?_ | refine ae tk0 bW (ab fun Y hY=>aa ?_) | refine aa ?_ | refine ao ?_);(try clear hK' K');(try dsimp only [aop]);try simp only [go_sem,seval,-Int.reduceNatCast,-Int.reduceNatCast',bW,Tryz.results105,h0']) | (with_reducible first | refine af ?_ | refine bh rfl ?_ | refine aL ?_ | refine cS ?_ ?_ | refine ai ?_ | refine aj ?_ | refine ay fun K hK=>?_ | refine au ?_) | (with_reducible refine hK _ ?_;clear hK K) | ((with_reducible refine aG ?_ ?_);(· decide)) | (with_reducible refine ah (hck) ?_) | (with_reducible refine ce (dM) ?_))
def okW (k : Int) (l : Ln) (ks : List Fo) : Bool :=
 if k = 0∨k = 1 then ge l && decide ((ks.length : Int) = 0) else if k = 2 then mn l && decide ((ks.length : Int) = 0)
 else if k = 4 then ge l && (decide ((ks.length : Int) = 1) && decide ((ks.headD fT).kind = 2)) else if k = 5∨k = 6 then ge l else false
mutual
def eI : Fo→Int→Int→Int
 | .mk k l ks,d,z=>if okW k l ks = true∧1≤d then eJ ks (d - 1) (z - 1) else -1
def eJ : List Fo→Int→Int→Int
 | [],_,z=>z
 | f :: r,d,z=>if 0≤z then eJ r d (eI f d z) else z
end
mutual
theorem rC : ∀ (f : Fo) (d z : Int),0≤z→-1≤eI f d z∧eI f d z≤z
 | .mk k l ks,d,z,hz=>by
  rw [eI]
  split
  ·have:=rD ks (d - 1) (z - 1) (by omega)
   omega
  ·omega
theorem rD : ∀ (l : List Fo) (d z : Int),-1≤z→-1≤eJ l d z∧eJ l d z≤z
 | [],_,z,hz=>by rw [eJ];omega
 | f :: r,d,z,hz=>by
  rw [eJ]
  split
  ·rename_i h
   have h1:=rC f d z h
   have h2:=rD r d (eI f d z) h1.1
   omega
  ·omega
end
theorem s4 (d z : Int) {ks : List Fo} {k : Nat} (h : k < ks.length) : eJ (ks.drop k) d z = if 0≤z then eJ (ks.drop (k + 1)) d (eI ks[k] d z) else z:=by
 rw [List.drop_eq_getElem_cons h,eJ]
def ax : Nat→List Nat
 | 0=>[0,1,2]
 | 1=>[1,2,3]
 | 2=>[1,2,3,7]
 | 3=>[1,2,3,7]
 | 4=>[1,2,3,7,8]
 | 5=>[1,2,3,7,8,24]
 | 6=>[1,2,3,7,8,24]
 | 7=>[1,2,3,7]
 | 8=>[1,2,3,7,8,24]
 | 9=>[1,2,3]
 | 10=>[1,2,3,7,8,24]
 | 11=>[1,2,3,7]
 | 12=>[1,2,3,7,8,24]
 | 13=>[1,2,3,7,8,24]
 | 14=>[1,2,3,7]
 | 15=>[1,2,3,8]
 | 16=>[]
 | 17=>[1,2,3]
 | 18=>[1,2,3,9]
 | 19=>[1,2,3,9]
 | 20=>[1,2,3,9]
 | 21=>[2]
 | _=>[]
set_option maxRecDepth 100000 in
set_option maxHeartbeats 16000000 in
theorem zG : ∀ f,OkF f→∀ (d z : Int),0≤d→d≤1000→0≤z→z≤1000000→AFn Tryz.prog 71 [.agg (foA f),inA d,inA z] [] (inA (eI f d z)) []:=by
 refine iH fun k l ks hlt0 hlk hoks IH d z hd0 hd1 hz0 hz1=>?_
 have hcan:=qa l
 unfold Lg at hlk
 obtain ⟨c,t⟩:=l
 rw [cH]
 have hwz : IntKind.i64.wrap (z - 1) = z - 1:=aY (by omega) (by omega)
 have hW : eI (.mk k ⟨c,t⟩ ks) d z = if okW k ⟨c,t⟩ ks = true∧1≤d then eJ ks (d - 1) (z - 1) else -1:=by rw [eI]
 rw [hW]
 clear hW
 refine aD [] Tryz.func71 rfl Tryz.ntmps71 (Nat.le_of_ble_eq_true rfl) (Nat.le_of_ble_eq_true rfl) fun w0 G0 B0 Pr hB0=>?_
 simp only [aO,aA,List.cons_append,List.nil_append]
 apply kW (α:=Unit) (fun _=>[(1,inA d),(2,inA z),(3,.loc 10003 0),(7,.c (.bool (ge ⟨c,t⟩))),(10003,.bc (frm k c t ks) 27)]) (fun _=>True)
 case use =>
  intro key
  by_cases h1 : c = 0
  ·by_cases h2 : (t.length : Int) = 0
   ·have hn : ge ⟨c,t⟩ = true:=by unfold ge;rw [decide_eq_true h1,decide_eq_true h2];rfl
    have h1' : (c = 0) = True:=eq_true h1
    have h2' : ((t.length : Int) = 0) = True:=eq_true h2
    repeat' (first | (with_reducible refine hY _ ?_;clear hY Y) | ((with_reducible first | refine an rfl (ar fun K' hK'=>aa ?_) | refine hK' _ (ab fun Y hY=>aa ?_) | refine bl rfl (ab fun Y hY=>aa ?_) | refine ab fun Y hY=>aa ?_ | refine ar fun K' hK'=>aa ?_);(try clear hK' K');(try dsimp only [aop]);try simp only [go_sem,seval,-Int.reduceNatCast,-Int.reduceNatCast',ax,Tryz.results71,h1',h2']) | (with_reducible first | refine af ?_ | refine aL ?_ | refine ai ?_ | refine ay fun K hK=>?_) | ((with_reducible refine cq 2 ?_ ?_);(· rfl)) | ((with_reducible refine bD 2 tk0 ax ?_ (ab fun Y hY=>aa ?_));(· rfl);(try dsimp only [aop]);try simp only [go_sem,seval,-Int.reduceNatCast,-Int.reduceNatCast',ax,Tryz.results71,h1',h2']) | (with_reducible refine hK _ ?_;clear hK K) | ((with_reducible refine aG ?_ ?_);(· decide)))
    exact bL (L:=[1,2,3,7]) (by simp only [go_sem,seval,-Int.reduceNatCast,-Int.reduceNatCast',hn];try exact rfl) (key () trivial)
   ·have hn : ge ⟨c,t⟩ = false:=by unfold ge;rw [decide_eq_true h1,decide_eq_false h2];rfl
    have h1' : (c = 0) = True:=eq_true h1
    have h2' : ((t.length : Int) = 0) = False:=eq_false h2
    repeat' (first | (with_reducible refine hY _ ?_;clear hY Y) | ((with_reducible first | refine an rfl (ar fun K' hK'=>aa ?_) | refine hK' _ (ab fun Y hY=>aa ?_) | refine bl rfl (ab fun Y hY=>aa ?_) | refine ab fun Y hY=>aa ?_ | refine ar fun K' hK'=>aa ?_);(try clear hK' K');(try dsimp only [aop]);try simp only [go_sem,seval,-Int.reduceNatCast,-Int.reduceNatCast',ax,Tryz.results71,h1',h2']) | (with_reducible first | refine af ?_ | refine aL ?_ | refine ai ?_ | refine ay fun K hK=>?_) | ((with_reducible refine cq 2 ?_ ?_);(· rfl)) | ((with_reducible refine bD 2 tk0 ax ?_ (ab fun Y hY=>aa ?_));(· rfl);(try dsimp only [aop]);try simp only [go_sem,seval,-Int.reduceNatCast,-Int.reduceNatCast',ax,Tryz.results71,h1',h2']) | (with_reducible refine hK _ ?_;clear hK K) | ((with_reducible refine aG ?_ ?_);(· decide)))
    exact bL (L:=[1,2,3,7]) (by simp only [go_sem,seval,-Int.reduceNatCast,-Int.reduceNatCast',hn];try exact rfl) (key () trivial)
  ·have hn : ge ⟨c,t⟩ = false:=by unfold ge;rw [decide_eq_false h1];rfl
   have h1' : (c = 0) = False:=eq_false h1
   repeat' (first | (with_reducible refine hY _ ?_;clear hY Y) | ((with_reducible first | refine an rfl (ar fun K' hK'=>aa ?_) | refine hK' _ (ab fun Y hY=>aa ?_) | refine bl rfl (ab fun Y hY=>aa ?_) | refine ab fun Y hY=>aa ?_ | refine aa ?_);(try clear hK' K');(try dsimp only [aop]);try simp only [go_sem,seval,-Int.reduceNatCast,-Int.reduceNatCast',ax,Tryz.results71,h1']) | (with_reducible first | refine af ?_ | refine bh rfl ?_ | refine cS ?_ ?_ | refine ai ?_ | refine ay fun K hK=>?_) | ((with_reducible refine cq 2 ?_ ?_);(· rfl)) | ((with_reducible refine bD 2 tk0 ax ?_ (ab fun Y hY=>aa ?_));(· rfl);(try dsimp only [aop]);try simp only [go_sem,seval,-Int.reduceNatCast,-Int.reduceNatCast',ax,Tryz.results71,h1']) | (with_reducible refine hK _ ?_;clear hK K) | ((with_reducible refine aG ?_ ?_);(· decide)))
   exact bL (L:=[1,2,3,7]) (by simp only [go_sem,seval,-Int.reduceNatCast,-Int.reduceNatCast',hn];try exact rfl) (key () trivial)
 case key =>
 rintro _ _
 obtain ⟨b,hb⟩ : ∃ b,b = ge ⟨c,t⟩:=⟨_,rfl⟩
 obtain ⟨cn,hcn⟩ : ∃ cn,cn = mn ⟨c,t⟩:=⟨_,rfl⟩
 have ho : okW k ⟨c,t⟩ ks = if k = 0∨k = 1 then b && decide ((ks.length : Int) = 0) else if k = 2 then cn && decide ((ks.length : Int) = 0)
  else if k = 4 then b && (decide ((ks.length : Int) = 1) && decide ((ks.headD fT).kind = 2)) else if k = 5∨k = 6 then b else false:=by rw [hb,hcn];rfl
 rw [← hb]
 rw [← hcn] at hcan
 generalize okW k ⟨c,t⟩ ks = o at *
 clear hb hcn
 apply kW (α:=Unit) (fun _=>[(1,inA d),(2,inA (z - 1)),(3,.loc 10003 0),(8,.c (.bool o)),(10003,.bc (frm k c t ks) 27)]) (fun _=>True)
 case use =>
  intro key
  by_cases k0 : k = 0∨k = 1
  ·have ho1 : o = (b && decide ((ks.length : Int) = 0)):=by rw [ho,if_pos k0]
   by_cases hbt : b = true
   ·by_cases k00 : k = 0
    ·repeat' (first | (with_reducible refine hY _ ?_;clear hY Y) | ((with_reducible first | refine an rfl (ar fun K' hK'=>aa ?_) | refine hK' _ (ab fun Y hY=>aa ?_) | refine bl rfl (ab fun Y hY=>aa ?_) | refine ab fun Y hY=>aa ?_ | refine ar fun K' hK'=>aa ?_);(try clear hK' K');(try dsimp only [aop]);try simp only [go_sem,seval,-Int.reduceNatCast,-Int.reduceNatCast',ax,Tryz.results71,k00,hwz,hbt]) | (with_reducible first | refine af ?_ | refine aL ?_ | refine ai ?_ | refine ay fun K hK=>?_ | refine ap ?_ | refine aU ?_ | refine al ?_ | refine av ?_) | ((with_reducible refine cq 15 ?_ ?_);(· rfl)) | ((with_reducible refine bD 15 tk0 ax ?_ (ab fun Y hY=>aa ?_));(· rfl);(try dsimp only [aop]);try simp only [go_sem,seval,-Int.reduceNatCast,-Int.reduceNatCast',ax,Tryz.results71,k00,hwz,hbt]) | (with_reducible refine hK _ ?_;clear hK K) | ((with_reducible first | refine aG ?_ ?_ | refine ag ?_ ?_);(· decide)))
     exact bL (L:=[1,2,3,8]) (by simp only [go_sem,seval,-Int.reduceNatCast,-Int.reduceNatCast',ho1,hbt,k00,Bool.true_and];try exact rfl) (key () trivial)
    ·have k1 : k = 1:=k0.resolve_left k00
     repeat' (first | (with_reducible refine hY _ ?_;clear hY Y) | ((with_reducible first | refine an rfl (ar fun K' hK'=>aa ?_) | refine hK' _ (ab fun Y hY=>aa ?_) | refine bl rfl (ab fun Y hY=>aa ?_) | refine ab fun Y hY=>aa ?_ | refine ar fun K' hK'=>aa ?_);(try clear hK' K');(try dsimp only [aop]);try simp only [go_sem,seval,-Int.reduceNatCast,-Int.reduceNatCast',ax,Tryz.results71,k1,hwz,hbt]) | (with_reducible first | refine af ?_ | refine aL ?_ | refine ai ?_ | refine ay fun K hK=>?_ | refine ap ?_ | refine aq ?_ | refine aU ?_ | refine al ?_) | ((with_reducible refine cq 15 ?_ ?_);(· rfl)) | ((with_reducible refine bD 15 tk0 ax ?_ (ab fun Y hY=>aa ?_));(· rfl);(try dsimp only [aop]);try simp only [go_sem,seval,-Int.reduceNatCast,-Int.reduceNatCast',ax,Tryz.results71,k1,hwz,hbt]) | (with_reducible refine hK _ ?_;clear hK K) | ((with_reducible first | refine aG ?_ ?_ | refine ag ?_ ?_);(· decide)))
     exact bL (L:=[1,2,3,8]) (by simp only [go_sem,seval,-Int.reduceNatCast,-Int.reduceNatCast',ho1,hbt,k1,Bool.true_and];try exact rfl) (key () trivial)
   ·have hbf : b = false:=by simpa using hbt
    by_cases k00 : k = 0
    ·repeat' (first | (with_reducible refine hY _ ?_;clear hY Y) | ((with_reducible first | refine an rfl (ar fun K' hK'=>aa ?_) | refine hK' _ (ab fun Y hY=>aa ?_) | refine bl rfl (ab fun Y hY=>aa ?_) | refine ab fun Y hY=>aa ?_ | refine aa ?_);(try clear hK' K');(try dsimp only [aop]);try simp only [go_sem,seval,-Int.reduceNatCast,-Int.reduceNatCast',ax,Tryz.results71,k00,hwz,hbf]) | (with_reducible first | refine af ?_ | refine bh rfl ?_ | refine cS ?_ ?_ | refine ai ?_ | refine ay fun K hK=>?_ | refine ap ?_ | refine aU ?_ | refine al ?_ | refine av ?_) | ((with_reducible refine cq 15 ?_ ?_);(· rfl)) | ((with_reducible refine bD 15 tk0 ax ?_ (ab fun Y hY=>aa ?_));(· rfl);(try dsimp only [aop]);try simp only [go_sem,seval,-Int.reduceNatCast,-Int.reduceNatCast',ax,Tryz.results71,k00,hwz,hbf]) | (with_reducible refine hK _ ?_;clear hK K) | ((with_reducible first | refine aG ?_ ?_ | refine ag ?_ ?_);(· decide)))
     exact bL (L:=[1,2,3,8]) (by simp only [go_sem,seval,-Int.reduceNatCast,-Int.reduceNatCast',ho1,hbf,k00,Bool.false_and];try exact rfl) (key () trivial)
    ·have k1 : k = 1:=k0.resolve_left k00
     repeat' (first | (with_reducible refine hY _ ?_;clear hY Y) | ((with_reducible first | refine an rfl (ar fun K' hK'=>aa ?_) | refine hK' _ (ab fun Y hY=>aa ?_) | refine bl rfl (ab fun Y hY=>aa ?_) | refine ab fun Y hY=>aa ?_ | refine aa ?_);(try clear hK' K');(try dsimp only [aop]);try simp only [go_sem,seval,-Int.reduceNatCast,-Int.reduceNatCast',ax,Tryz.results71,k1,hwz,hbf]) | (with_reducible first | refine af ?_ | refine bh rfl ?_ | refine cS ?_ ?_ | refine ai ?_ | refine ay fun K hK=>?_ | refine ap ?_ | refine aq ?_ | refine aU ?_ | refine al ?_) | ((with_reducible refine cq 15 ?_ ?_);(· rfl)) | ((with_reducible refine bD 15 tk0 ax ?_ (ab fun Y hY=>aa ?_));(· rfl);(try dsimp only [aop]);try simp only [go_sem,seval,-Int.reduceNatCast,-Int.reduceNatCast',ax,Tryz.results71,k1,hwz,hbf]) | (with_reducible refine hK _ ?_;clear hK K) | ((with_reducible first | refine aG ?_ ?_ | refine ag ?_ ?_);(· decide)))
     exact bL (L:=[1,2,3,8]) (by simp only [go_sem,seval,-Int.reduceNatCast,-Int.reduceNatCast',ho1,hbf,k1,Bool.false_and];try exact rfl) (key () trivial)
  ·rw [if_neg k0] at ho
   have e0 : (k = 0) = False:=eq_false fun e=>k0 (.inl e)
   have e1 : (k = 1) = False:=eq_false fun e=>k0 (.inr e)
   by_cases k2 : k = 2
   ·have ho1 : o = (cn && decide ((ks.length : Int) = 0)):=by rw [ho,if_pos k2]
    by_cases hct : cn = true
    ·repeat' (first | (with_reducible refine hY _ ?_;clear hY Y) | ((with_reducible first | refine an rfl (ar fun K' hK'=>aa ?_) | refine hK' _ (ab fun Y hY=>aa ?_) | refine bl rfl (ab fun Y hY=>aa ?_) | refine ab fun Y hY=>aa ?_ | refine ar fun K' hK'=>aa ?_ | refine aa ?_);(try clear hK' K');(try dsimp only [aop]);try simp only [go_sem,seval,-Int.reduceNatCast,-Int.reduceNatCast',ax,Tryz.results71,k2,hwz,hct]) | (with_reducible first | refine af ?_ | refine aL ?_ | refine ai ?_ | refine ay fun K hK=>?_ | refine ap ?_ | refine aq ?_ | refine aU ?_ | refine al ?_) | ((with_reducible refine cq 15 ?_ ?_);(· rfl)) | ((with_reducible refine bD 15 tk0 ax ?_ (ab fun Y hY=>aa ?_));(· rfl);(try dsimp only [aop]);try simp only [go_sem,seval,-Int.reduceNatCast,-Int.reduceNatCast',ax,Tryz.results71,k2,hwz,hct]) | (with_reducible refine hK _ ?_;clear hK K) | ((with_reducible first | refine aG ?_ ?_ | refine ag ?_ ?_);(· decide)) | (with_reducible refine ah (hcan) ?_))
     exact bL (L:=[1,2,3,8]) (by simp only [go_sem,seval,-Int.reduceNatCast,-Int.reduceNatCast',ho1,hct,k2,Bool.true_and];try exact rfl) (key () trivial)
    ·have hcf : cn = false:=by simpa using hct
     repeat' (first | (with_reducible refine hY _ ?_;clear hY Y) | ((with_reducible first | refine an rfl (ar fun K' hK'=>aa ?_) | refine hK' _ (ab fun Y hY=>aa ?_) | refine bl rfl (ab fun Y hY=>aa ?_) | refine ab fun Y hY=>aa ?_ | refine aa ?_);(try clear hK' K');(try dsimp only [aop]);try simp only [go_sem,seval,-Int.reduceNatCast,-Int.reduceNatCast',ax,Tryz.results71,k2,hwz,hcf]) | (with_reducible first | refine af ?_ | refine bh rfl ?_ | refine cS ?_ ?_ | refine ai ?_ | refine ay fun K hK=>?_ | refine ap ?_ | refine aq ?_ | refine aU ?_ | refine al ?_) | ((with_reducible refine cq 15 ?_ ?_);(· rfl)) | ((with_reducible refine bD 15 tk0 ax ?_ (ab fun Y hY=>aa ?_));(· rfl);(try dsimp only [aop]);try simp only [go_sem,seval,-Int.reduceNatCast,-Int.reduceNatCast',ax,Tryz.results71,k2,hwz,hcf]) | (with_reducible refine hK _ ?_;clear hK K) | ((with_reducible first | refine aG ?_ ?_ | refine ag ?_ ?_);(· decide)) | (with_reducible refine ah (hcan) ?_))
     exact bL (L:=[1,2,3,8]) (by simp only [go_sem,seval,-Int.reduceNatCast,-Int.reduceNatCast',ho1,hcf,k2,Bool.false_and];try exact rfl) (key () trivial)
   ·rw [if_neg k2] at ho
    have e2 : (k = 2) = False:=eq_false k2
    by_cases k4 : k = 4
    ·rw [if_pos k4] at ho
     by_cases hbt : b = true
     ·by_cases hn1 : (ks.length : Int) = 1
      ·have ho1 : o = decide ((ks.headD fT).kind = 2):=by rw [ho,hbt,decide_eq_true hn1];rfl
       have hn1' : ((ks.length : Int) = 1) = True:=eq_true hn1
       have hnn : ks ≠ []:=fun e=>by rw [e] at hn1;simp at hn1
       have hpos : 0 < ks.length:=by omega
       have hg0:=fN hpos
       have hhd : ks.headD fT = ks[0]:=by cases ks with | nil=>exact absurd rfl hnn | cons f r=>rfl
       rw [hhd] at ho1
       have hfl:=dC ks
       have hq : (cD ks).getD 0 .u = inA ks[0].kind:=by
        cases ks with
        | nil=>exact absurd rfl hnn
        | cons f r=>obtain ⟨fk,fl,fks⟩:=f;simp [cD,foA,Fo.kind]
       have hpl : ((0 : Int) < (ks.length : Int)) = True:=eq_true (by omega)
       have hp4 : (1≤ks.length * 4) = True:=eq_true (by omega)
       have hp5 : (0 < ks.length * 4) = True:=eq_true (by omega)
       repeat' (first | (with_reducible refine hY _ ?_;clear hY Y) | ((with_reducible first | refine an rfl (ar fun K' hK'=>aa ?_) | refine hK' _ (ab fun Y hY=>aa ?_) | refine bl rfl (ab fun Y hY=>aa ?_) | refine ab fun Y hY=>aa ?_ | refine ar fun K' hK'=>aa ?_);(try clear hK' K');(try dsimp only [aop]);try simp only [go_sem,seval,-Int.reduceNatCast,-Int.reduceNatCast',ax,Tryz.results71,k4,hwz,hbt,hn1',hfl,hq,hpl,hp4,hp5]) | (with_reducible first | refine af ?_ | refine aL ?_ | refine ai ?_ | refine ay fun K hK=>?_ | refine ap ?_ | refine aq ?_ | refine aU ?_ | refine al ?_) | ((with_reducible refine cq 15 ?_ ?_);(· rfl)) | ((with_reducible refine bD 15 tk0 ax ?_ (ab fun Y hY=>aa ?_));(· rfl);(try dsimp only [aop]);try simp only [go_sem,seval,-Int.reduceNatCast,-Int.reduceNatCast',ax,Tryz.results71,k4,hwz,hbt,hn1',hfl,hq,hpl,hp4,hp5]) | (with_reducible refine hK _ ?_;clear hK K) | ((with_reducible first | refine aG ?_ ?_ | refine ag ?_ ?_);(· decide)))
       exact bL (L:=[1,2,3,8]) (by simp only [go_sem,seval,-Int.reduceNatCast,-Int.reduceNatCast',ho1,hbt,k4,Bool.true_and];try exact rfl) (key () trivial)
      ·have ho1 : o = false:=by rw [ho,hbt,decide_eq_false hn1];rfl
       have hn1' : ((ks.length : Int) = 1) = False:=eq_false hn1
       repeat' (first | (with_reducible refine hY _ ?_;clear hY Y) | ((with_reducible first | refine an rfl (ar fun K' hK'=>aa ?_) | refine hK' _ (ab fun Y hY=>aa ?_) | refine bl rfl (ab fun Y hY=>aa ?_) | refine ab fun Y hY=>aa ?_ | refine ar fun K' hK'=>aa ?_ | refine aa ?_);(try clear hK' K');(try dsimp only [aop]);try simp only [go_sem,seval,-Int.reduceNatCast,-Int.reduceNatCast',ax,Tryz.results71,k4,hwz,hbt,hn1']) | (with_reducible first | refine af ?_ | refine bh rfl ?_ | refine aL ?_ | refine cS ?_ ?_ | refine ai ?_ | refine ay fun K hK=>?_ | refine ap ?_ | refine aq ?_ | refine aU ?_ | refine al ?_) | ((with_reducible refine cq 15 ?_ ?_);(· rfl)) | ((with_reducible refine bD 15 tk0 ax ?_ (ab fun Y hY=>aa ?_));(· rfl);(try dsimp only [aop]);try simp only [go_sem,seval,-Int.reduceNatCast,-Int.reduceNatCast',ax,Tryz.results71,k4,hwz,hbt,hn1']) | (with_reducible refine hK _ ?_;clear hK K) | ((with_reducible first | refine aG ?_ ?_ | refine ag ?_ ?_);(· decide)))
       exact bL (L:=[1,2,3,8]) (by simp only [go_sem,seval,-Int.reduceNatCast,-Int.reduceNatCast',ho1,hbt,k4,Bool.true_and];try exact rfl) (key () trivial)
     ·have hbf : b = false:=by simpa using hbt
      have ho1 : o = false:=by rw [ho,hbf];rfl
      repeat' (first | (with_reducible refine hY _ ?_;clear hY Y) | ((with_reducible first | refine an rfl (ar fun K' hK'=>aa ?_) | refine hK' _ (ab fun Y hY=>aa ?_) | refine bl rfl (ab fun Y hY=>aa ?_) | refine ab fun Y hY=>aa ?_ | refine aa ?_);(try clear hK' K');(try dsimp only [aop]);try simp only [go_sem,seval,-Int.reduceNatCast,-Int.reduceNatCast',ax,Tryz.results71,k4,hwz,hbf]) | (with_reducible first | refine af ?_ | refine bh rfl ?_ | refine cS ?_ ?_ | refine ai ?_ | refine ay fun K hK=>?_ | refine ap ?_ | refine aq ?_ | refine aU ?_ | refine al ?_) | ((with_reducible refine cq 15 ?_ ?_);(· rfl)) | ((with_reducible refine bD 15 tk0 ax ?_ (ab fun Y hY=>aa ?_));(· rfl);(try dsimp only [aop]);try simp only [go_sem,seval,-Int.reduceNatCast,-Int.reduceNatCast',ax,Tryz.results71,k4,hwz,hbf]) | (with_reducible refine hK _ ?_;clear hK K) | ((with_reducible first | refine aG ?_ ?_ | refine ag ?_ ?_);(· decide)))
      exact bL (L:=[1,2,3,8]) (by simp only [go_sem,seval,-Int.reduceNatCast,-Int.reduceNatCast',ho1,hbf,k4,Bool.true_and];try exact rfl) (key () trivial)
    ·rw [if_neg k4] at ho
     have e4 : (k = 4) = False:=eq_false k4
     by_cases k5 : k = 5∨k = 6
     ·have ho1 : o = b:=by rw [ho,if_pos k5]
      by_cases k55 : k = 5
      ·repeat' (first | (with_reducible refine hY _ ?_;clear hY Y) | ((with_reducible first | refine an rfl (ar fun K' hK'=>aa ?_) | refine hK' _ (ab fun Y hY=>aa ?_) | refine ab fun Y hY=>aa ?_);(try clear hK' K');(try dsimp only [aop]);try simp only [go_sem,seval,-Int.reduceNatCast,-Int.reduceNatCast',ax,Tryz.results71,k55,hwz]) | (with_reducible first | refine af ?_ | refine ai ?_ | refine ay fun K hK=>?_ | refine ap ?_ | refine aq ?_ | refine aU ?_ | refine al ?_ | refine av ?_) | ((with_reducible refine cq 15 ?_ ?_);(· rfl)) | ((with_reducible refine bD 15 tk0 ax ?_ (ab fun Y hY=>aa ?_));(· rfl);(try dsimp only [aop]);try simp only [go_sem,seval,-Int.reduceNatCast,-Int.reduceNatCast',ax,Tryz.results71,k55,hwz]) | (with_reducible refine hK _ ?_;clear hK K) | ((with_reducible refine ag ?_ ?_);(· decide)))
       exact bL (L:=[1,2,3,8]) (by simp only [go_sem,seval,-Int.reduceNatCast,-Int.reduceNatCast',ho1,k55];try exact rfl) (key () trivial)
      ·have k6 : k = 6:=k5.resolve_left k55
       repeat' (first | (with_reducible refine hY _ ?_;clear hY Y) | ((with_reducible first | refine an rfl (ar fun K' hK'=>aa ?_) | refine hK' _ (ab fun Y hY=>aa ?_) | refine ab fun Y hY=>aa ?_);(try clear hK' K');(try dsimp only [aop]);try simp only [go_sem,seval,-Int.reduceNatCast,-Int.reduceNatCast',ax,Tryz.results71,k6,hwz]) | (with_reducible first | refine af ?_ | refine ai ?_ | refine ay fun K hK=>?_ | refine ap ?_ | refine aq ?_ | refine aU ?_ | refine al ?_) | ((with_reducible refine cq 15 ?_ ?_);(· rfl)) | ((with_reducible refine bD 15 tk0 ax ?_ (ab fun Y hY=>aa ?_));(· rfl);(try dsimp only [aop]);try simp only [go_sem,seval,-Int.reduceNatCast,-Int.reduceNatCast',ax,Tryz.results71,k6,hwz]) | (with_reducible refine hK _ ?_;clear hK K) | ((with_reducible refine ag ?_ ?_);(· decide)))
       exact bL (L:=[1,2,3,8]) (by simp only [go_sem,seval,-Int.reduceNatCast,-Int.reduceNatCast',ho1,k6];try exact rfl) (key () trivial)
     ·have ho1 : o = false:=by rw [ho,if_neg k5]
      have e5 : (k = 5) = False:=eq_false fun e=>k5 (.inl e)
      have e6 : (k = 6) = False:=eq_false fun e=>k5 (.inr e)
      repeat' (first | (with_reducible refine hY _ ?_;clear hY Y) | ((with_reducible first | refine an rfl (ar fun K' hK'=>aa ?_) | refine hK' _ (ab fun Y hY=>aa ?_) | refine ab fun Y hY=>aa ?_);(try clear hK' K');(try dsimp only [aop]);try simp only [go_sem,seval,-Int.reduceNatCast,-Int.reduceNatCast',ax,Tryz.results71,e0,e1,e2,e4,e5,e6,hwz]) | (with_reducible first | refine af ?_ | refine ai ?_ | refine ay fun K hK=>?_ | refine aq ?_ | refine aU ?_ | refine al ?_ | refine av ?_) | ((with_reducible refine cq 15 ?_ ?_);(· rfl)) | ((with_reducible refine bD 15 tk0 ax ?_ (ab fun Y hY=>aa ?_));(· rfl);(try dsimp only [aop]);try simp only [go_sem,seval,-Int.reduceNatCast,-Int.reduceNatCast',ax,Tryz.results71,e0,e1,e2,e4,e5,e6,hwz]) | (with_reducible refine hK _ ?_;clear hK K) | ((with_reducible refine ag ?_ ?_);(· decide)))
      exact bL (L:=[1,2,3,8]) (by simp only [go_sem,seval,-Int.reduceNatCast,-Int.reduceNatCast',ho1];try exact rfl) (key () trivial)
 case key =>
 rintro _ _
 clear ho hcan
 cases o with
 | false =>
  rw [if_neg (by simp)]
  repeat' (first | (with_reducible refine hY _ ?_;clear hY Y) | ((with_reducible first | refine an rfl (ar fun K' hK'=>aa ?_) | refine hK' _ (ab fun Y hY=>aa ?_) | refine bl rfl (ab fun Y hY=>aa ?_) | refine ab fun Y hY=>aa ?_ | refine ae tk0 ax (ab fun Y hY=>aa ?_) | refine aa ?_ | refine ao ?_);(try clear hK' K');(try dsimp only [aop]);try simp only [go_sem,seval,-Int.reduceNatCast,-Int.reduceNatCast',ax,Tryz.results71]) | (with_reducible first | refine af ?_ | refine bh rfl ?_ | refine cS ?_ ?_ | refine ai ?_ | refine aj ?_ | refine ay fun K hK=>?_ | refine ap ?_ | refine aS ?_ | refine au ?_) | (with_reducible refine hK _ ?_;clear hK K) | ((with_reducible first | refine aG ?_ ?_ | refine ag ?_ ?_);(· decide)))
 | true =>
 by_cases hd : 1≤d
 ·rw [if_pos ⟨rfl,hd⟩]
  have hd' : (d < 1) = False:=eq_false (by omega)
  have hwd : IntKind.i64.wrap (d - 1) = d - 1:=aY (by omega) (by omega)
  have hw0 : eJ (ks.drop 0) (d - 1) (z - 1) = eJ ks (d - 1) (z - 1):=by rw [List.drop_zero]
  generalize eJ ks (d - 1) (z - 1) = W at *
  repeat' (first | (with_reducible refine hY _ ?_;clear hY Y) | ((with_reducible first | refine an rfl (ar fun K' hK'=>aa ?_) | refine hK' _ (ab fun Y hY=>aa ?_) | refine bl rfl (ab fun Y hY=>aa ?_) | refine ab fun Y hY=>aa ?_ | refine ar fun K' hK'=>aa ?_ | refine ae tk0 ax (ab fun Y hY=>aa ?_));(try clear hK' K');(try dsimp only [aop]);try simp only [go_sem,seval,-Int.reduceNatCast,-Int.reduceNatCast',ax,Tryz.results71,hd']) | (with_reducible first | refine af ?_ | refine aL ?_ | refine ai ?_ | refine aj ?_ | refine ay fun K hK=>?_ | refine aq ?_ | refine al ?_ | refine av ?_ | refine bG ?_) | (with_reducible refine hK _ ?_;clear hK K) | ((with_reducible first | refine aG ?_ ?_ | refine ag ?_ ?_);(· decide)))
  refine bK (α:=Nat × Int) (fun a=>[(1,inA d),(2,inA a.2),(3,.loc 10003 0),(9,inA (a.1 : Int)),(10003,.bc (frm k c t ks) 27)])
   (fun a=>a.1≤ks.length∧(-1≤a.2∧a.2≤1000000)∧eJ (ks.drop a.1) (d - 1) a.2 = W) (fun a=>ks.length - a.1) (0,z - 1) [1,2,3,9] ?_ ⟨Nat.zero_le _,⟨by simp only;omega,by simp only;omega⟩,hw0⟩ ?_
  ·simp only [go_sem,seval,-Int.reduceNatCast,-Int.reduceNatCast'] <;> rfl
  clear hw0
  rintro ⟨i,y⟩ ⟨hi,⟨hy1,hy2⟩,hwi⟩ ih
  simp only at hi hy1 hy2 hwi ih ⊢
  by_cases hlt : i < ks.length
  ·have hlt' : ((i : Int) < (ks.length : Int)) = True:=eq_true (by omega)
   have hkw:=cf (n:=i) (by omega)
   have hg0:=fN hlt
   have hfl:=dC ks
   rw [s4 _ _ hlt] at hwi
   by_cases hy : 0≤y
   ·have hy' : (0≤y) = True:=eq_true hy
    rw [if_pos hy] at hwi
    have hc:=IH ks[i] (List.getElem_mem hlt) (d - 1) y (by omega) (by omega) hy hy2
    have hbd:=rC ks[i] (d - 1) y hy
    have ih':=ih (i + 1,eI ks[i] (d - 1) y) ⟨by simp only;omega,⟨hbd.1,by simp only;omega⟩,hwi⟩ (by simp only;omega)
    simp only at ih'
    clear ih IH hwi hbd
    generalize eI ks[i] (d - 1) y = y' at *
    generalize ks[i] = f at *
    obtain ⟨fk,⟨fc,ft⟩,fks⟩:=f
    rw [cH] at hg0 hc
    repeat' (first | (with_reducible refine hY _ ?_;clear hY Y) | ((with_reducible first | refine an rfl (ar fun K' hK'=>aa ?_) | refine hK' _ (ab fun Y hY=>aa ?_) | refine bl rfl (ab fun Y hY=>aa ?_) | refine ab fun Y hY=>aa ?_ | refine ar fun K' hK'=>aa ?_ | refine ae tk0 ax (ab fun Y hY=>aa ?_) | refine aa ?_);(try clear hK' K');(try dsimp only [aop]);try simp only [go_sem,seval,-Int.reduceNatCast,-Int.reduceNatCast',ax,Tryz.results71,hlt',hy',hkw,hg0,hfl,hwd]) | (with_reducible first | refine af ?_ | refine aL ?_ | refine ai ?_ | refine aj ?_ | refine ay fun K hK=>?_ | refine ap ?_ | refine aU ?_ | refine al ?_ | refine av ?_) | (with_reducible refine hK _ ?_;clear hK K) | ((with_reducible first | refine aG ?_ ?_ | refine ag ?_ ?_);(· decide)) | (with_reducible refine bp ?_ ?_;(· (try and_intros) <;> first | omega | assumption | (simp only [List.length_append,List.length_map,List.length_cons,List.length_nil] <;> omega))) | (with_reducible refine ah (hc) ?_))
    refine bi [1,2,3,9] (by simp only [go_sem,seval,-Int.reduceNatCast,-Int.reduceNatCast'];exact rfl) ?_
    exact ih'
   ·have hy' : (0≤y) = False:=eq_false hy
    rw [if_neg hy] at hwi
    subst hwi
    clear ih IH
    repeat' (first | (with_reducible refine hY _ ?_;clear hY Y) | ((with_reducible first | refine an rfl (ar fun K' hK'=>aa ?_) | refine hK' _ (ab fun Y hY=>aa ?_) | refine bl rfl (ab fun Y hY=>aa ?_) | refine ab fun Y hY=>aa ?_ | refine ar fun K' hK'=>aa ?_ | refine ae tk0 ax (ab fun Y hY=>aa ?_) | refine aa ?_ | refine ao ?_);(try clear hK' K');(try dsimp only [aop]);try simp only [go_sem,seval,-Int.reduceNatCast,-Int.reduceNatCast',ax,Tryz.results71,hlt',hy']) | (with_reducible first | refine af ?_ | refine aL ?_ | refine ai ?_ | refine aj ?_ | refine ay fun K hK=>?_ | refine aq ?_ | refine bC ?_ | refine bg ?_ | refine au ?_ | refine bf ?_) | (with_reducible refine hK _ ?_;clear hK K) | ((with_reducible first | refine aG ?_ ?_ | refine ag ?_ ?_);(· decide)))
  ·have hlt' : ((i : Int) < (ks.length : Int)) = False:=eq_false (by omega)
   obtain rfl : y = W:=by rw [← hwi,List.drop_eq_nil_of_le (by omega),eJ]
   clear ih IH hwi
   repeat' (first | (with_reducible refine hY _ ?_;clear hY Y) | ((with_reducible first | refine an rfl (ar fun K' hK'=>aa ?_) | refine hK' _ (ab fun Y hY=>aa ?_) | refine bl rfl (ab fun Y hY=>aa ?_) | refine ab fun Y hY=>aa ?_ | refine ae tk0 ax (ab fun Y hY=>aa ?_) | refine aa ?_ | refine ao ?_);(try clear hK' K');(try dsimp only [aop]);try simp only [go_sem,seval,-Int.reduceNatCast,-Int.reduceNatCast',ax,Tryz.results71,hlt']) | (with_reducible first | refine af ?_ | refine bh rfl ?_ | refine cS ?_ ?_ | refine ai ?_ | refine aj ?_ | refine ay fun K hK=>?_ | refine aq ?_ | refine bC ?_ | refine bg ?_ | refine au ?_ | refine bf ?_) | (with_reducible refine hK _ ?_;clear hK K) | ((with_reducible first | refine aG ?_ ?_ | refine ag ?_ ?_);(· decide)))
 ·rw [if_neg fun h=>hd h.2]
  have hd' : (d < 1) = True:=eq_true (by omega)
  repeat' (first | (with_reducible refine hY _ ?_;clear hY Y) | ((with_reducible first | refine an rfl (ar fun K' hK'=>aa ?_) | refine hK' _ (ab fun Y hY=>aa ?_) | refine bl rfl (ab fun Y hY=>aa ?_) | refine ab fun Y hY=>aa ?_ | refine ar fun K' hK'=>aa ?_ | refine ae tk0 ax (ab fun Y hY=>aa ?_) | refine aa ?_ | refine ao ?_);(try clear hK' K');(try dsimp only [aop]);try simp only [go_sem,seval,-Int.reduceNatCast,-Int.reduceNatCast',ax,Tryz.results71,hd']) | (with_reducible first | refine af ?_ | refine aL ?_ | refine ai ?_ | refine aj ?_ | refine ay fun K hK=>?_ | refine ap ?_ | refine aS ?_ | refine au ?_) | (with_reducible refine hK _ ?_;clear hK K) | ((with_reducible first | refine aG ?_ ?_ | refine ag ?_ ?_);(· decide)))
def isN (f : Fo) : Bool:=decide (0≤eI f 128 20480)
def gC : Nat→List Nat
 | 0=>[0]
 | 1=>[1]
 | _=>[]
set_option maxRecDepth 100000 in
theorem zW (f : Fo) (hok : OkF f) : AFn Tryz.prog 34 [.agg (foA f)] [] (.c (.bool (isN f))) []:=by
 have h:=zG f hok 128 20480 (by decide) (by decide) (by decide) (by decide)
 unfold isN
 generalize eI f 128 20480 = W at *
 obtain ⟨k,⟨c,t⟩,ks⟩:=f
 rw [cH] at h ⊢
 refine aD [] Tryz.func34 rfl Tryz.ntmps34 (Nat.le_of_ble_eq_true rfl) (Nat.le_of_ble_eq_true rfl) fun w0 G0 B0 Pr hB0=>?_
 simp only [aO,aA,List.cons_append,List.nil_append]
 repeat' (first | (with_reducible refine hY _ ?_;clear hY Y) | ((with_reducible first | refine an rfl (ar fun K' hK'=>aa ?_) | refine hK' _ (ab fun Y hY=>aa ?_) | refine ae tk0 gC (ab fun Y hY=>aa ?_) | refine aa ?_ | refine ao ?_);(try clear hK' K');(try dsimp only [aop]);try simp only [go_sem,seval,-Int.reduceNatCast,-Int.reduceNatCast',gC,Tryz.results34]) | (with_reducible first | refine af ?_ | refine ai ?_ | refine aj ?_ | refine ay fun K hK=>?_ | refine au ?_) | (with_reducible refine hK _ ?_;clear hK K) | (with_reducible refine ah (h) ?_))
end Go.Proofs.YtmpdocplcgbpkaaGreatDoor
namespace Go.Proofs.YtmpdocplcgbpkaaGreatDoor
set_option linter.unusedSimpArgs false
set_option linter.unusedVariables false
open Go.RowKit
mutual
theorem oC : ∀ (f : Fo) (d z : Int),0≤eI f d z→eI f d z + tot f = z∧sn f
 | .mk k l ks,d,z,h=>by
  rw [eI] at h ⊢
  split at h
  ·rename_i hc
   rw [if_pos hc]
   obtain ⟨h1,h2⟩:=jP ks (d - 1) (z - 1) h
   rw [tot,sn]
   refine ⟨by omega,fun e hn=>?_,h2⟩
   have hw:=hc.1
   unfold okW at hw
   subst e
   rw [hn] at hw
   simp at hw
  ·omega
theorem jP : ∀ (l : List Fo) (d z : Int),0≤eJ l d z→eJ l d z + dJ l = z∧qr l
 | [],d,z,h=>by rw [eJ,dJ];exact ⟨by omega,trivial⟩
 | f :: r,d,z,h=>by
  rw [eJ] at h ⊢
  split at h
  ·rename_i hz
   rw [if_pos hz]
   obtain ⟨h1,h2⟩:=jP r d (eI f d z) h
   obtain ⟨g1,g2⟩:=oC f d z (by omega)
   rw [dJ,qr]
   exact ⟨by omega,g2,h2⟩
  ·omega
end
theorem o7 {f : Fo} (h : isN f = true) : tot f≤20480∧sn f:=by
 unfold isN at h
 obtain ⟨h1,h2⟩:=oC f 128 20480 (of_decide_eq_true h)
 have:=of_decide_eq_true h
 exact ⟨by omega,h2⟩
def fi (cs : List (List Int)) : Nat:=(cs.map List.length).sum
def c4 (n : Int) (cs : List (List Int)) : Nat :=
 if n < 0∨8192 < n then 1 else if 16384 < cs.length∨131072 < fi cs then 2 else if cs.any (fun c=>c.any fun l=>!iO n l) then 5 else 0
theorem om {cs : List (List Int)} {k : Nat} (h : k < cs.length) : fi (cs.take (k + 1)) = fi (cs.take k) + cs[k].length:=by
 unfold fi;rw [List.take_succ_eq_append_getElem h,List.map_append,List.sum_append_nat];simp only [List.map_cons,List.map_nil,List.sum_cons,List.sum_nil,Nat.add_zero]
theorem kP (cs : List (List Int)) (k : Nat) : fi (cs.take k)≤fi cs:=by
 have : fi cs = fi (cs.take k) + fi (cs.drop k):=by
  unfold fi
  rw [← List.sum_append_nat,← List.map_append,List.take_append_drop]
 omega
def bu : Nat→List Nat
 | 0=>[0,1]
 | 1=>[1,2]
 | 2=>[]
 | 3=>[1,2]
 | 4=>[]
 | 5=>[1,2]
 | 6=>[1,2,5]
 | 7=>[1,2,5,21,22,23]
 | 8=>[1,2,5,21,22,23]
 | 9=>[1,2,5,7,21,22,23]
 | 10=>[]
 | 11=>[1,2,5,7,21,22,23]
 | 12=>[1,2,5,21,22,23]
 | 13=>[1,2]
 | 14=>[2,38,39,40]
 | 15=>[2,38,39,40]
 | 16=>[2,9,38,39,40]
 | 17=>[]
 | 18=>[2,38,39,40]
 | 19=>[]
 | _=>[]
theorem rU : aM Tryz.prog 74 = true:=by kernel_rfl
set_option maxRecDepth 100000 in
set_option maxHeartbeats 8000000 in
theorem kI (n : Int) (cs : List (List Int)) (hL : Lg cs) (hc : ∀ c ∈ cs,Lg c) : AFn Tryz.prog 37 [inA n,csA cs] [] (b9 (c4 n cs)) []:=by
 unfold Lg at hL
 have hE : c4 n cs = if n < 0∨8192 < n then 1 else if 16384 < cs.length∨131072 < fi cs then 2 else if cs.any (fun c=>c.any fun l=>!iO n l) then 5 else 0:=rfl
 by_cases h1 : n < 0
 ·rw [hE,if_pos (.inl h1),oT]
  have h1' : (n < 0) = True:=eq_true h1
  clear hE
  refine aD [] Tryz.func37 rfl Tryz.ntmps37 (Nat.le_of_ble_eq_true rfl) (Nat.le_of_ble_eq_true rfl) fun w0 G0 B0 Pr hB0=>?_
  simp only [aO,aA,List.cons_append,List.nil_append]
  repeat' (first | (with_reducible refine hY _ ?_;clear hY Y) | ((with_reducible first | refine an rfl (ar fun K' hK'=>aa ?_) | refine hK' _ (ab fun Y hY=>aa ?_) | refine bl rfl (ab fun Y hY=>aa ?_) | refine ab fun Y hY=>aa ?_ | refine ae tk0 bu (ab fun Y hY=>aa ?_) | refine aa ?_ | refine ao ?_);(try clear hK' K');(try dsimp only [aop]);try simp only [go_sem,↓reduceIte,Nat.reduceEqDiff,Nat.reduceLT,Nat.reduceLeDiff,Nat.reduceAdd,Nat.reduceSub,Nat.reduceMul,Nat.reduceBEq,Nat.reduceBNe,Nat.reducePow,Int.reduceToNat,Int.reduceLE,Int.reduceLT,Int.reduceMul,Int.reduceEq,Int.reducePow,Int.reduceAdd,Int.reduceSub,Int.reduceNeg,reduceCtorEq,bu,Tryz.results37,h1']) | (with_reducible first | refine af ?_ | refine bh rfl ?_ | refine cS ?_ ?_ | refine ai ?_ | refine aj ?_ | refine ay fun K hK=>?_ | refine ap ?_ | refine aS ?_ | refine au ?_) | (with_reducible refine hK _ ?_;clear hK K) | ((with_reducible first | refine aG ?_ ?_ | refine ag ?_ ?_);(· decide)))
 have h1' : (n < 0) = False:=eq_false h1
 by_cases h2 : 8192 < n
 ·rw [hE,if_pos (.inr h2),oT]
  have h2' : ((8192 : Int) < n) = True:=eq_true h2
  clear hE
  refine aD [] Tryz.func37 rfl Tryz.ntmps37 (Nat.le_of_ble_eq_true rfl) (Nat.le_of_ble_eq_true rfl) fun w0 G0 B0 Pr hB0=>?_
  simp only [aO,aA,List.cons_append,List.nil_append]
  repeat' (first | (with_reducible refine hY _ ?_;clear hY Y) | ((with_reducible first | refine an rfl (ar fun K' hK'=>aa ?_) | refine hK' _ (ab fun Y hY=>aa ?_) | refine bl rfl (ab fun Y hY=>aa ?_) | refine ab fun Y hY=>aa ?_ | refine ar fun K' hK'=>aa ?_ | refine ae tk0 bu (ab fun Y hY=>aa ?_) | refine aa ?_ | refine ao ?_);(try clear hK' K');(try dsimp only [aop]);try simp only [go_sem,↓reduceIte,Nat.reduceEqDiff,Nat.reduceLT,Nat.reduceLeDiff,Nat.reduceAdd,Nat.reduceSub,Nat.reduceMul,Nat.reduceBEq,Nat.reduceBNe,Nat.reducePow,Int.reduceToNat,Int.reduceLE,Int.reduceLT,Int.reduceMul,Int.reduceEq,Int.reducePow,Int.reduceAdd,Int.reduceSub,Int.reduceNeg,reduceCtorEq,bu,Tryz.results37,h1',h2']) | (with_reducible first | refine af ?_ | refine aL ?_ | refine ai ?_ | refine aj ?_ | refine ay fun K hK=>?_ | refine ap ?_ | refine aS ?_ | refine au ?_) | (with_reducible refine hK _ ?_;clear hK K) | ((with_reducible first | refine aG ?_ ?_ | refine ag ?_ ?_);(· decide)))
 have h2' : ((8192 : Int) < n) = False:=eq_false h2
 rw [if_neg (by omega)] at hE
 by_cases h3 : 16384 < cs.length
 ·rw [hE,if_pos (.inl h3),gZ]
  have h3' : ((16384 : Int) < (cs.length : Int)) = True:=eq_true (by omega)
  clear hE
  refine aD [] Tryz.func37 rfl Tryz.ntmps37 (Nat.le_of_ble_eq_true rfl) (Nat.le_of_ble_eq_true rfl) fun w0 G0 B0 Pr hB0=>?_
  simp only [aO,aA,List.cons_append,List.nil_append]
  repeat' (first | (with_reducible refine hY _ ?_;clear hY Y) | ((with_reducible first | refine an rfl (ar fun K' hK'=>aa ?_) | refine hK' _ (ab fun Y hY=>aa ?_) | refine bl rfl (ab fun Y hY=>aa ?_) | refine ab fun Y hY=>aa ?_ | refine ar fun K' hK'=>aa ?_ | refine ae tk0 bu (ab fun Y hY=>aa ?_) | refine aa ?_ | refine ao ?_);(try clear hK' K');(try dsimp only [aop]);try simp only [go_sem,↓reduceIte,Nat.reduceEqDiff,Nat.reduceLT,Nat.reduceLeDiff,Nat.reduceAdd,Nat.reduceSub,Nat.reduceMul,Nat.reduceBEq,Nat.reduceBNe,Nat.reducePow,Int.reduceToNat,Int.reduceLE,Int.reduceLT,Int.reduceMul,Int.reduceEq,Int.reducePow,Int.reduceAdd,Int.reduceSub,Int.reduceNeg,reduceCtorEq,bu,Tryz.results37,h1',h2',h3']) | (with_reducible first | refine af ?_ | refine aL ?_ | refine ai ?_ | refine aj ?_ | refine ay fun K hK=>?_ | refine ap ?_ | refine aq ?_ | refine aS ?_ | refine av ?_ | refine au ?_) | (with_reducible refine hK _ ?_;clear hK K) | ((with_reducible first | refine aG ?_ ?_ | refine ag ?_ ?_);(· decide)))
 have h3' : ((16384 : Int) < (cs.length : Int)) = False:=eq_false (by omega)
 refine aD [] Tryz.func37 rfl Tryz.ntmps37 (Nat.le_of_ble_eq_true rfl) (Nat.le_of_ble_eq_true rfl) fun w0 G0 B0 Pr hB0=>?_
 simp only [aO,aA,List.cons_append,List.nil_append]
 repeat' (first | (with_reducible refine hY _ ?_;clear hY Y) | ((with_reducible first | refine an rfl (ar fun K' hK'=>aa ?_) | refine hK' _ (ab fun Y hY=>aa ?_) | refine bl rfl (ab fun Y hY=>aa ?_) | refine ab fun Y hY=>aa ?_ | refine ar fun K' hK'=>aa ?_ | refine ae tk0 bu (ab fun Y hY=>aa ?_));(try clear hK' K');(try dsimp only [aop]);try simp only [go_sem,↓reduceIte,Nat.reduceEqDiff,Nat.reduceLT,Nat.reduceLeDiff,Nat.reduceAdd,Nat.reduceSub,Nat.reduceMul,Nat.reduceBEq,Nat.reduceBNe,Nat.reducePow,Int.reduceToNat,Int.reduceLE,Int.reduceLT,Int.reduceMul,Int.reduceEq,Int.reducePow,Int.reduceAdd,Int.reduceSub,Int.reduceNeg,reduceCtorEq,bu,Tryz.results37,h1',h2',h3']) | (with_reducible first | refine af ?_ | refine aL ?_ | refine ai ?_ | refine aj ?_ | refine ay fun K hK=>?_ | refine aq ?_ | refine al ?_ | refine av ?_ | refine bG ?_) | (with_reducible refine hK _ ?_;clear hK K) | ((with_reducible first | refine aG ?_ ?_ | refine ag ?_ ?_);(· decide)))
 refine bK (α:=Nat) (fun k=>[(1,csA cs),(2,.loc 10002 0),(5,inA (fi (cs.take k) : Int)),(21,csA cs),(22,inA (cs.length : Int)),(23,inA (k : Int)),(10002,.bc [inA n] 3)])
  (fun k=>k≤cs.length∧fi (cs.take k)≤131072) (fun k=>cs.length - k) 0 [1,2,5,21,22,23] ?_ ⟨Nat.zero_le _,by unfold fi;simp⟩ ?_
 ·simp only [go_sem,↓reduceIte,Nat.reduceEqDiff,Nat.reduceLT,Nat.reduceLeDiff,Nat.reduceAdd,Nat.reduceSub,Nat.reduceMul,Nat.reduceBEq,Nat.reduceBNe,Nat.reducePow,Int.reduceToNat,Int.reduceLE,Int.reduceLT,Int.reduceMul,Int.reduceEq,Int.reducePow,Int.reduceAdd,Int.reduceSub,Int.reduceNeg,reduceCtorEq] <;> rfl
 rintro k ⟨hk,hs⟩ ih
 by_cases hlt : k < cs.length
 ·have hlt' : ((k : Int) < (cs.length : Int)) = True:=eq_true (by omega)
  have hkw:=cf (n:=k) (by omega)
  have hg0:=ly hlt
  have hfl : (cs.map dr).length = cs.length:=List.length_map ..
  have hst:=om hlt
  have hsl:=kP cs (k + 1)
  have hcl:=hc _ (List.getElem_mem hlt)
  unfold Lg at hcl
  have hw1 : IntKind.i64.wrap (131072 - (fi (cs.take k) : Int)) = 131072 - (fi (cs.take k) : Int):=aY (by omega) (by omega)
  by_cases hb : 131072 < fi (cs.take (k + 1))
  ·rw [hE,if_pos (.inr (by omega)),gZ]
   have hw2 : (131072 - (fi (cs.take k) : Int) < (cs[k].length : Int)) = True:=eq_true (by omega)
   clear ih hE hc
   generalize fi (cs.take k) = S at *
   generalize cs[k] = c at *
   repeat' (first | (with_reducible refine hY _ ?_;clear hY Y) | ((with_reducible first | refine an rfl (ar fun K' hK'=>aa ?_) | refine hK' _ (ab fun Y hY=>aa ?_) | refine ab fun Y hY=>aa ?_ | refine ae tk0 bu (ab fun Y hY=>aa ?_) | refine aa ?_ | refine ao ?_);(try clear hK' K');(try dsimp only [aop]);try simp only [go_sem,↓reduceIte,Nat.reduceEqDiff,Nat.reduceLT,Nat.reduceLeDiff,Nat.reduceAdd,Nat.reduceSub,Nat.reduceMul,Nat.reduceBEq,Nat.reduceBNe,Nat.reducePow,Int.reduceToNat,Int.reduceLE,Int.reduceLT,Int.reduceMul,Int.reduceEq,Int.reducePow,Int.reduceAdd,Int.reduceSub,Int.reduceNeg,reduceCtorEq,bu,Tryz.results37,hlt',hg0,hfl,hw1,hw2]) | (with_reducible first | refine af ?_ | refine ai ?_ | refine aj ?_ | refine ay fun K hK=>?_ | refine ap ?_ | refine aS ?_ | refine bb ?_ | refine al ?_ | refine av ?_ | refine au ?_) | (with_reducible refine hK _ ?_;clear hK K) | ((with_reducible refine ag ?_ ?_);(· decide)) | (with_reducible refine bp ?_ ?_;(· (try and_intros) <;> first | omega | assumption | (simp only [List.length_append,List.length_map,List.length_cons,List.length_nil] <;> omega))))
  ·have ih':=ih (k + 1) ⟨by omega,by omega⟩ (by omega)
   rw [hst] at ih'
   have hw2 : (131072 - (fi (cs.take k) : Int) < (cs[k].length : Int)) = False:=eq_false (by omega)
   have hw3:=eK (a:=fi (cs.take k)) (b:=cs[k].length) (by omega)
   clear ih hE hc
   generalize fi (cs.take k) = S at *
   generalize cs[k] = c at *
   repeat' (first | (with_reducible refine hY _ ?_;clear hY Y) | ((with_reducible first | refine an rfl (ar fun K' hK'=>aa ?_) | refine hK' _ (ab fun Y hY=>aa ?_) | refine ab fun Y hY=>aa ?_ | refine ae tk0 bu (ab fun Y hY=>aa ?_));(try clear hK' K');(try dsimp only [aop]);try simp only [go_sem,↓reduceIte,Nat.reduceEqDiff,Nat.reduceLT,Nat.reduceLeDiff,Nat.reduceAdd,Nat.reduceSub,Nat.reduceMul,Nat.reduceBEq,Nat.reduceBNe,Nat.reducePow,Int.reduceToNat,Int.reduceLE,Int.reduceLT,Int.reduceMul,Int.reduceEq,Int.reducePow,Int.reduceAdd,Int.reduceSub,Int.reduceNeg,reduceCtorEq,bu,Tryz.results37,hlt',hkw,hg0,hfl,hw1,hw2,hw3]) | (with_reducible first | refine af ?_ | refine ai ?_ | refine aj ?_ | refine ay fun K hK=>?_ | refine ap ?_ | refine aq ?_ | refine aU ?_ | refine al ?_ | refine av ?_) | (with_reducible refine hK _ ?_;clear hK K) | ((with_reducible refine ag ?_ ?_);(· decide)) | (with_reducible refine bp ?_ ?_;(· (try and_intros) <;> first | omega | assumption | (simp only [List.length_append,List.length_map,List.length_cons,List.length_nil] <;> omega))))
   refine bi [1,2,5,21,22,23] (by simp only [go_sem,↓reduceIte,Nat.reduceEqDiff,Nat.reduceLT,Nat.reduceLeDiff,Nat.reduceAdd,Nat.reduceSub,Nat.reduceMul,Nat.reduceBEq,Nat.reduceBNe,Nat.reducePow,Int.reduceToNat,Int.reduceLE,Int.reduceLT,Int.reduceMul,Int.reduceEq,Int.reducePow,Int.reduceAdd,Int.reduceSub,Int.reduceNeg,reduceCtorEq];exact rfl) ?_
   exact ih'
 have hlt' : ((k : Int) < (cs.length : Int)) = False:=eq_false (by omega)
 rw [List.take_of_length_le (by omega)] at hs
 rw [if_neg (by omega)] at hE
 clear ih
 repeat' (first | (with_reducible refine hY _ ?_;clear hY Y) | ((with_reducible first | refine an rfl (ar fun K' hK'=>aa ?_) | refine hK' _ (ab fun Y hY=>aa ?_) | refine ab fun Y hY=>aa ?_ | refine ae tk0 bu (ab fun Y hY=>aa ?_));(try clear hK' K');(try dsimp only [aop]);try simp only [go_sem,↓reduceIte,Nat.reduceEqDiff,Nat.reduceLT,Nat.reduceLeDiff,Nat.reduceAdd,Nat.reduceSub,Nat.reduceMul,Nat.reduceBEq,Nat.reduceBNe,Nat.reducePow,Int.reduceToNat,Int.reduceLE,Int.reduceLT,Int.reduceMul,Int.reduceEq,Int.reducePow,Int.reduceAdd,Int.reduceSub,Int.reduceNeg,reduceCtorEq,bu,Tryz.results37,hlt']) | (with_reducible first | refine af ?_ | refine ai ?_ | refine aj ?_ | refine ay fun K hK=>?_ | refine aq ?_ | refine bC ?_ | refine bg ?_ | refine al ?_ | refine bf ?_ | refine bG ?_) | (with_reducible refine hK _ ?_;clear hK K) | ((with_reducible refine ag ?_ ?_);(· decide)))
 refine bK (α:=Nat) (fun k=>[(2,.loc 10002 0),(38,csA cs),(39,inA (cs.length : Int)),(40,inA (k : Int)),(10002,.bc [inA n] 3)])
  (fun k=>k≤cs.length∧∀ j (hj : j < cs.length),j < k→(cs[j].any fun l=>!iO n l) = false) (fun k=>cs.length - k) 0 [2,38,39,40] ?_ ⟨Nat.zero_le _,fun j _ hj=>absurd hj (Nat.not_lt_zero _)⟩ ?_
 ·simp only [go_sem,↓reduceIte,Nat.reduceEqDiff,Nat.reduceLT,Nat.reduceLeDiff,Nat.reduceAdd,Nat.reduceSub,Nat.reduceMul,Nat.reduceBEq,Nat.reduceBNe,Nat.reducePow,Int.reduceToNat,Int.reduceLE,Int.reduceLT,Int.reduceMul,Int.reduceEq,Int.reducePow,Int.reduceAdd,Int.reduceSub,Int.reduceNeg,reduceCtorEq] <;> rfl
 clear hlt' hlt hk
 rintro k ⟨hk,hall⟩ ih
 by_cases hlt : k < cs.length
 ·have hlt' : ((k : Int) < (cs.length : Int)) = True:=eq_true (by omega)
  have hkw:=cf (n:=k) (by omega)
  have hg0:=ly hlt
  have hfl : (cs.map dr).length = cs.length:=List.length_map ..
  have hh:=sg cs[k] 74 n (fun l=>!iO n l) rU (hc _ (List.getElem_mem hlt)) fun y _=>vR n y (by omega)
  cases hb : cs[k].any fun l=>!iO n l with
  | true =>
   rw [hE,if_pos (List.any_eq_true.2 ⟨_,List.getElem_mem hlt,hb⟩),di]
   rw [hb] at hh
   clear ih hall hE hb hc
   generalize cs[k] = c at *
   repeat' (first | (with_reducible refine hY _ ?_;clear hY Y) | ((with_reducible first | refine an rfl (ar fun K' hK'=>aa ?_) | refine hK' _ (ab fun Y hY=>aa ?_) | refine ab fun Y hY=>aa ?_ | refine ae tk0 bu (ab fun Y hY=>aa ?_) | refine aa ?_ | refine ao ?_);(try clear hK' K');(try dsimp only [aop]);try simp only [go_sem,↓reduceIte,Nat.reduceEqDiff,Nat.reduceLT,Nat.reduceLeDiff,Nat.reduceAdd,Nat.reduceSub,Nat.reduceMul,Nat.reduceBEq,Nat.reduceBNe,Nat.reducePow,Int.reduceToNat,Int.reduceLE,Int.reduceLT,Int.reduceMul,Int.reduceEq,Int.reducePow,Int.reduceAdd,Int.reduceSub,Int.reduceNeg,reduceCtorEq,bu,Tryz.results37,hlt',hg0,hfl]) | (with_reducible first | refine af ?_ | refine ai ?_ | refine aj ?_ | refine ay fun K hK=>?_ | refine ap ?_ | refine aS ?_ | refine bb ?_ | refine al ?_ | refine av ?_ | refine au ?_) | (with_reducible refine hK _ ?_;clear hK K) | ((with_reducible refine ag ?_ ?_);(· decide)) | (with_reducible refine bp ?_ ?_;(· (try and_intros) <;> first | omega | assumption | (simp only [List.length_append,List.length_map,List.length_cons,List.length_nil] <;> omega))) | (with_reducible refine ah (hh) ?_))
  | false =>
   have ih':=ih (k + 1) ⟨by omega,fun j hj hjk=>by
    by_cases e : j < k
    ·exact hall j hj e
    ·obtain rfl : j = k:=by omega
     exact hb⟩ (by omega)
   rw [hb] at hh
   clear ih hall hE hb hc
   generalize cs[k] = c at *
   repeat' (first | (with_reducible refine hY _ ?_;clear hY Y) | ((with_reducible first | refine an rfl (ar fun K' hK'=>aa ?_) | refine hK' _ (ab fun Y hY=>aa ?_) | refine ab fun Y hY=>aa ?_ | refine ae tk0 bu (ab fun Y hY=>aa ?_) | refine aa ?_);(try clear hK' K');(try dsimp only [aop]);try simp only [go_sem,↓reduceIte,Nat.reduceEqDiff,Nat.reduceLT,Nat.reduceLeDiff,Nat.reduceAdd,Nat.reduceSub,Nat.reduceMul,Nat.reduceBEq,Nat.reduceBNe,Nat.reducePow,Int.reduceToNat,Int.reduceLE,Int.reduceLT,Int.reduceMul,Int.reduceEq,Int.reducePow,Int.reduceAdd,Int.reduceSub,Int.reduceNeg,reduceCtorEq,bu,Tryz.results37,hlt',hkw,hg0,hfl]) | (with_reducible first | refine af ?_ | refine ai ?_ | refine aj ?_ | refine ay fun K hK=>?_ | refine ap ?_ | refine aq ?_ | refine aU ?_ | refine al ?_ | refine av ?_) | (with_reducible refine hK _ ?_;clear hK K) | ((with_reducible refine ag ?_ ?_);(· decide)) | (with_reducible refine bp ?_ ?_;(· (try and_intros) <;> first | omega | assumption | (simp only [List.length_append,List.length_map,List.length_cons,List.length_nil] <;> omega))) | (with_reducible refine ah (hh) ?_))
   refine bi [2,38,39,40] (by simp only [go_sem,↓reduceIte,Nat.reduceEqDiff,Nat.reduceLT,Nat.reduceLeDiff,Nat.reduceAdd,Nat.reduceSub,Nat.reduceMul,Nat.reduceBEq,Nat.reduceBNe,Nat.reducePow,Int.reduceToNat,Int.reduceLE,Int.reduceLT,Int.reduceMul,Int.reduceEq,Int.reducePow,Int.reduceAdd,Int.reduceSub,Int.reduceNeg,reduceCtorEq];exact rfl) ?_
   exact ih'
 ·have hlt' : ((k : Int) < (cs.length : Int)) = False:=eq_false (by omega)
  have hno : (cs.any fun c=>c.any fun l=>!iO n l) = false:=by
   rw [List.any_eq_false]
   intro x hx
   obtain ⟨j,hj,rfl⟩:=List.getElem_of_mem hx
   rw [hall j hj (by omega)];simp
  rw [hE,hno,if_neg (by decide),cR]
  clear ih hall hE hc
  repeat' (first | (with_reducible refine hY _ ?_;clear hY Y) | ((with_reducible first | refine an rfl (ar fun K' hK'=>aa ?_) | refine hK' _ (ab fun Y hY=>aa ?_) | refine ab fun Y hY=>aa ?_ | refine ae tk0 bu (ab fun Y hY=>aa ?_) | refine aa ?_ | refine ao ?_);(try clear hK' K');(try dsimp only [aop]);try simp only [go_sem,↓reduceIte,Nat.reduceEqDiff,Nat.reduceLT,Nat.reduceLeDiff,Nat.reduceAdd,Nat.reduceSub,Nat.reduceMul,Nat.reduceBEq,Nat.reduceBNe,Nat.reducePow,Int.reduceToNat,Int.reduceLE,Int.reduceLT,Int.reduceMul,Int.reduceEq,Int.reducePow,Int.reduceAdd,Int.reduceSub,Int.reduceNeg,reduceCtorEq,bu,Tryz.results37,hlt']) | (with_reducible first | refine af ?_ | refine ai ?_ | refine aj ?_ | refine ay fun K hK=>?_ | refine aq ?_ | refine bC ?_ | refine bg ?_ | refine au ?_ | refine bf ?_) | (with_reducible refine hK _ ?_;clear hK K) | ((with_reducible refine ag ?_ ?_);(· decide)))
end Go.Proofs.YtmpdocplcgbpkaaGreatDoor

/- Formulas in K: slices.ContainsFunc; deep, size, fine, Check. norm.Norm in K, of whatever formula. -/
import Derived.Test.YtmpdocplcgbpkaaGreatDoorZ9
import Derived.Test.YtmpdocplcgbpkaaGreatDoorZ15
import Derived.Test.YtmpdocplcgbpkaaGreatDoorZ10
import Derived.Test.YtmpdocplcgbpkaaGreatDoorZ20
namespace Go.Proofs.YtmpdocplcgbpkaaGreatDoor
set_option linter.unusedSimpArgs false
set_option linter.unusedVariables false
open Go.RowKit
def az : Nat→List Nat
 | 0=>[0,1]
 | 1=>[0,1]
 | 2=>[0,1,7,8]
 | 3=>[0,1,7,8]
 | 4=>[0,1,5,7,8]
 | 5=>[5]
 | 6=>[0,1,7,8]
 | 7=>[]
 | _=>[]
def bS : Nat→List Nat
 | 0=>[0,1]
 | 1=>[0,1]
 | _=>[]
set_option maxRecDepth 100000 in
set_option maxHeartbeats 8000000 in
theorem yb (l : List Fo) (F : Nat) (p : Fo→Bool) (hF : aM Tryz.prog F = true) (hl : Lg l) (h : ∀ y ∈ l,AFn Tryz.prog F [.agg (foA y)] [] (.c (.bool (p y))) []) :
  AFn Tryz.prog 101 [.sl (cD l) l.length .none,.fn (.func F) [] []] [] (inA (fiP p l)) []:=by
 unfold Lg at hl
 refine aD [] Tryz.func101 rfl Tryz.ntmps101 (Nat.le_of_ble_eq_true rfl) (Nat.le_of_ble_eq_true rfl) fun w0 G0 B0 Pr hB0=>?_
 simp only [aO,aA,List.cons_append,List.nil_append]
 repeat' (first | (with_reducible refine hY _ ?_;clear hY Y) | ((with_reducible first | refine an rfl (ar fun K' hK'=>aa ?_) | refine hK' _ (ab fun Y hY=>aa ?_) | refine ae tk0 az (ab fun Y hY=>aa ?_));(try clear hK' K');(try dsimp only [aop]);try simp only [go_sem,seval,-Int.reduceNatCast,-Int.reduceNatCast',az,Tryz.results101]) | (with_reducible first | refine af ?_ | refine ai ?_ | refine aj ?_ | refine ay fun K hK=>?_ | refine al ?_ | refine bG ?_) | (with_reducible refine hK _ ?_;clear hK K))
 refine bK (α:=Nat) (fun k=>[(0,.sl (cD l) l.length .none),(1,.fn (.func F) [] []),(7,inA (l.length : Int)),(8,inA (k : Int))])
  (fun k=>k≤l.length∧∀ j (hj : j < l.length),j < k→p l[j] = false) (fun k=>l.length - k) 0 [0,1,7,8] ?_ ⟨Nat.zero_le _,fun j _ hj=>absurd hj (Nat.not_lt_zero _)⟩ ?_
 ·simp only [go_sem,seval,-Int.reduceNatCast,-Int.reduceNatCast'] <;> rfl
 rintro k ⟨hk,hall⟩ ih
 by_cases hlt : k < l.length
 ·have hlt' : ((k : Int) < (l.length : Int)) = True:=eq_true (by omega)
  have hkw:=cf (n:=k) (by omega)
  have h1:=h l[k] (List.getElem_mem hlt)
  have hg0:=fN hlt
  have hfl:=dC l
  have hfi:=lz (p:=p) hlt hall
  have hnx : p l[k] = false→∀ j (hj : j < l.length),j < k + 1→p l[j] = false:=fun e j hj hjk=>by
   by_cases hj2 : j < k
   ·exact hall j hj hj2
   ·have : j = k:=by omega
    subst this;exact e
  generalize l[k] = t at *
  generalize hp : p t = b at *
  obtain ⟨tk,tl,ts⟩:=t
  simp only [foA] at hg0 h1
  cases b with
  | true =>
   rw [hfi rfl]
   clear ih hfi hnx hall h
   repeat' (first | (with_reducible refine hY _ ?_;clear hY Y) | ((with_reducible first | refine an rfl (ar fun K' hK'=>aa ?_) | refine hK' _ (ab fun Y hY=>aa ?_) | refine ab fun Y hY=>aa ?_ | refine ae tk0 az (ab fun Y hY=>aa ?_) | refine aa ?_ | refine ao ?_);(try clear hK' K');(try dsimp only [aop]);try simp only [go_sem,seval,-Int.reduceNatCast,-Int.reduceNatCast',az,Tryz.results101,hlt',hfl,hg0,hkw,hF]) | (with_reducible first | refine af ?_ | refine ai ?_ | refine aj ?_ | refine ay fun K hK=>?_ | refine ap ?_ | refine aS ?_ | refine bb ?_ | refine al ?_ | refine av ?_ | refine au ?_) | (with_reducible refine hK _ ?_;clear hK K) | ((with_reducible refine ag ?_ ?_);(· decide)) | (with_reducible refine bp ?_ ?_;(· (try and_intros) <;> first | omega | assumption | (simp only [List.length_append,List.length_map,List.length_cons,List.length_nil] <;> omega))) | (with_reducible refine ah (h1) ?_))
  | false =>
   clear hfi
   repeat' (first | (with_reducible refine hY _ ?_;clear hY Y) | ((with_reducible first | refine an rfl (ar fun K' hK'=>aa ?_) | refine hK' _ (ab fun Y hY=>aa ?_) | refine ab fun Y hY=>aa ?_ | refine ae tk0 az (ab fun Y hY=>aa ?_) | refine aa ?_);(try clear hK' K');(try dsimp only [aop]);try simp only [go_sem,seval,-Int.reduceNatCast,-Int.reduceNatCast',az,Tryz.results101,hlt',hfl,hg0,hkw,hF]) | (with_reducible first | refine af ?_ | refine ai ?_ | refine aj ?_ | refine ay fun K hK=>?_ | refine ap ?_ | refine aq ?_ | refine aU ?_ | refine al ?_ | refine av ?_) | (with_reducible refine hK _ ?_;clear hK K) | ((with_reducible refine ag ?_ ?_);(· decide)) | (with_reducible refine bp ?_ ?_;(· (try and_intros) <;> first | omega | assumption | (simp only [List.length_append,List.length_map,List.length_cons,List.length_nil] <;> omega))) | (with_reducible refine ah (h1) ?_))
   refine bi [0,1,7,8] (by simp only [go_sem,seval,-Int.reduceNatCast,-Int.reduceNatCast'];exact rfl) ?_
   exact ih (k + 1) ⟨by omega,hnx rfl⟩ (by omega)
 ·have hlt' : ((k : Int) < (l.length : Int)) = False:=eq_false (by omega)
  rw [lC fun j hj=>hall j hj (by omega)]
  clear ih h hall
  repeat' (first | (with_reducible refine hY _ ?_;clear hY Y) | ((with_reducible first | refine an rfl (ar fun K' hK'=>aa ?_) | refine hK' _ (ab fun Y hY=>aa ?_) | refine ab fun Y hY=>aa ?_ | refine ae tk0 az (ab fun Y hY=>aa ?_) | refine aa ?_ | refine ao ?_);(try clear hK' K');(try dsimp only [aop]);try simp only [go_sem,seval,-Int.reduceNatCast,-Int.reduceNatCast',az,Tryz.results101,hlt']) | (with_reducible first | refine af ?_ | refine ai ?_ | refine aj ?_ | refine ay fun K hK=>?_ | refine aq ?_ | refine bC ?_ | refine bg ?_ | refine au ?_ | refine bf ?_) | (with_reducible refine hK _ ?_;clear hK K) | ((with_reducible refine ag ?_ ?_);(· decide)))
set_option maxRecDepth 100000 in
set_option maxHeartbeats 8000000 in
theorem x9 (l : List Fo) (F : Nat) (p : Fo→Bool) (hF : aM Tryz.prog F = true) (hl : Lg l) (h : ∀ y ∈ l,AFn Tryz.prog F [.agg (foA y)] [] (.c (.bool (p y))) []) :
  AFn Tryz.prog 59 [.sl (cD l) l.length .none,.fn (.func F) [] []] [] (.c (.bool (l.any p))) []:=by
 have h1:=yb l F p hF hl h
 have h2 : decide (0≤fiP p l) = l.any p:=j3 p l
 refine aD [] Tryz.func59 rfl Tryz.ntmps59 (Nat.le_of_ble_eq_true rfl) (Nat.le_of_ble_eq_true rfl) fun w0 G0 B0 Pr hB0=>?_
 simp only [aO,aA,List.cons_append,List.nil_append]
 repeat' (first | (with_reducible refine hY _ ?_;clear hY Y) | ((with_reducible first | refine an rfl (ar fun K' hK'=>aa ?_) | refine hK' _ (ab fun Y hY=>aa ?_) | refine ae tk0 bS (ab fun Y hY=>aa ?_) | refine aa ?_ | refine ao ?_);(try clear hK' K');(try dsimp only [aop]);try simp only [go_sem,seval,-Int.reduceNatCast,-Int.reduceNatCast',bS,Tryz.results59,h2]) | (with_reducible first | refine af ?_ | refine ai ?_ | refine aj ?_ | refine ay fun K hK=>?_ | refine au ?_) | (with_reducible refine hK _ ?_;clear hK K) | (with_reducible refine ah (h1) ?_))
set_option maxRecDepth 100000 in
set_option maxHeartbeats 8000000 in
theorem yc (l : List Fo) (F : Nat) (cc : List AV) (p : Fo→Bool) (hF : aM Tryz.prog F = true) (hl : Lg l) (h : ∀ y ∈ l,AFn Tryz.prog F [.agg (foA y),.rf cc 0] [] (.c (.bool (p y))) []) :
  AFn Tryz.prog 101 [.sl (cD l) l.length .none,.fn (.func F) [] [.rf cc 0]] [] (inA (fiP p l)) []:=by
 unfold Lg at hl
 refine aD [] Tryz.func101 rfl Tryz.ntmps101 (Nat.le_of_ble_eq_true rfl) (Nat.le_of_ble_eq_true rfl) fun w0 G0 B0 Pr hB0=>?_
 simp only [aO,aA,List.cons_append,List.nil_append]
 repeat' (first | (with_reducible refine hY _ ?_;clear hY Y) | ((with_reducible first | refine an rfl (ar fun K' hK'=>aa ?_) | refine hK' _ (ab fun Y hY=>aa ?_) | refine ae tk0 az (ab fun Y hY=>aa ?_));(try clear hK' K');(try dsimp only [aop]);try simp only [go_sem,seval,-Int.reduceNatCast,-Int.reduceNatCast',az,Tryz.results101]) | (with_reducible first | refine af ?_ | refine ai ?_ | refine aj ?_ | refine ay fun K hK=>?_ | refine al ?_ | refine bG ?_) | (with_reducible refine hK _ ?_;clear hK K))
 refine bK (α:=Nat) (fun k=>[(0,.sl (cD l) l.length .none),(1,.fn (.func F) [] [.rf cc 0]),(7,inA (l.length : Int)),(8,inA (k : Int))])
  (fun k=>k≤l.length∧∀ j (hj : j < l.length),j < k→p l[j] = false) (fun k=>l.length - k) 0 [0,1,7,8] ?_ ⟨Nat.zero_le _,fun j _ hj=>absurd hj (Nat.not_lt_zero _)⟩ ?_
 ·simp only [go_sem,seval,-Int.reduceNatCast,-Int.reduceNatCast'] <;> rfl
 rintro k ⟨hk,hall⟩ ih
 by_cases hlt : k < l.length
 ·have hlt' : ((k : Int) < (l.length : Int)) = True:=eq_true (by omega)
  have hkw:=cf (n:=k) (by omega)
  have h1:=h l[k] (List.getElem_mem hlt)
  have hg0:=fN hlt
  have hfl:=dC l
  have hfi:=lz (p:=p) hlt hall
  have hnx : p l[k] = false→∀ j (hj : j < l.length),j < k + 1→p l[j] = false:=fun e j hj hjk=>by
   by_cases hj2 : j < k
   ·exact hall j hj hj2
   ·have : j = k:=by omega
    subst this;exact e
  generalize l[k] = t at *
  generalize hp : p t = b at *
  obtain ⟨tk,tl,ts⟩:=t
  simp only [foA] at hg0 h1
  cases b with
  | true =>
   rw [hfi rfl]
   clear ih hfi hnx hall h
   repeat' (first | (with_reducible refine hY _ ?_;clear hY Y) | ((with_reducible first | refine an rfl (ar fun K' hK'=>aa ?_) | refine hK' _ (ab fun Y hY=>aa ?_) | refine ab fun Y hY=>aa ?_ | refine ae tk0 az (ab fun Y hY=>aa ?_) | refine aa ?_ | refine ao ?_);(try clear hK' K');(try dsimp only [aop]);try simp only [go_sem,seval,-Int.reduceNatCast,-Int.reduceNatCast',az,Tryz.results101,hlt',hfl,hg0,hkw,hF]) | (with_reducible first | refine af ?_ | refine ai ?_ | refine aj ?_ | refine ay fun K hK=>?_ | refine ap ?_ | refine aS ?_ | refine bb ?_ | refine al ?_ | refine av ?_ | refine au ?_) | (with_reducible refine hK _ ?_;clear hK K) | ((with_reducible refine ag ?_ ?_);(· decide)) | (with_reducible refine bp ?_ ?_;(· (try and_intros) <;> first | omega | assumption | (simp only [List.length_append,List.length_map,List.length_cons,List.length_nil] <;> omega))) | (with_reducible refine ah (h1) ?_))
  | false =>
   clear hfi
   repeat' (first | (with_reducible refine hY _ ?_;clear hY Y) | ((with_reducible first | refine an rfl (ar fun K' hK'=>aa ?_) | refine hK' _ (ab fun Y hY=>aa ?_) | refine ab fun Y hY=>aa ?_ | refine ae tk0 az (ab fun Y hY=>aa ?_) | refine aa ?_);(try clear hK' K');(try dsimp only [aop]);try simp only [go_sem,seval,-Int.reduceNatCast,-Int.reduceNatCast',az,Tryz.results101,hlt',hfl,hg0,hkw,hF]) | (with_reducible first | refine af ?_ | refine ai ?_ | refine aj ?_ | refine ay fun K hK=>?_ | refine ap ?_ | refine aq ?_ | refine aU ?_ | refine al ?_ | refine av ?_) | (with_reducible refine hK _ ?_;clear hK K) | ((with_reducible refine ag ?_ ?_);(· decide)) | (with_reducible refine bp ?_ ?_;(· (try and_intros) <;> first | omega | assumption | (simp only [List.length_append,List.length_map,List.length_cons,List.length_nil] <;> omega))) | (with_reducible refine ah (h1) ?_))
   refine bi [0,1,7,8] (by simp only [go_sem,seval,-Int.reduceNatCast,-Int.reduceNatCast'];exact rfl) ?_
   exact ih (k + 1) ⟨by omega,hnx rfl⟩ (by omega)
 ·have hlt' : ((k : Int) < (l.length : Int)) = False:=eq_false (by omega)
  rw [lC fun j hj=>hall j hj (by omega)]
  clear ih h hall
  repeat' (first | (with_reducible refine hY _ ?_;clear hY Y) | ((with_reducible first | refine an rfl (ar fun K' hK'=>aa ?_) | refine hK' _ (ab fun Y hY=>aa ?_) | refine ab fun Y hY=>aa ?_ | refine ae tk0 az (ab fun Y hY=>aa ?_) | refine aa ?_ | refine ao ?_);(try clear hK' K');(try dsimp only [aop]);try simp only [go_sem,seval,-Int.reduceNatCast,-Int.reduceNatCast',az,Tryz.results101,hlt']) | (with_reducible first | refine af ?_ | refine ai ?_ | refine aj ?_ | refine ay fun K hK=>?_ | refine aq ?_ | refine bC ?_ | refine bg ?_ | refine au ?_ | refine bf ?_) | (with_reducible refine hK _ ?_;clear hK K) | ((with_reducible refine ag ?_ ?_);(· decide)))
set_option maxRecDepth 100000 in
set_option maxHeartbeats 8000000 in
theorem o6 (l : List Fo) (F : Nat) (cc : List AV) (p : Fo→Bool) (hF : aM Tryz.prog F = true) (hl : Lg l) (h : ∀ y ∈ l,AFn Tryz.prog F [.agg (foA y),.rf cc 0] [] (.c (.bool (p y))) []) :
  AFn Tryz.prog 59 [.sl (cD l) l.length .none,.fn (.func F) [] [.rf cc 0]] [] (.c (.bool (l.any p))) []:=by
 have h1:=yc l F cc p hF hl h
 have h2 : decide (0≤fiP p l) = l.any p:=j3 p l
 refine aD [] Tryz.func59 rfl Tryz.ntmps59 (Nat.le_of_ble_eq_true rfl) (Nat.le_of_ble_eq_true rfl) fun w0 G0 B0 Pr hB0=>?_
 simp only [aO,aA,List.cons_append,List.nil_append]
 repeat' (first | (with_reducible refine hY _ ?_;clear hY Y) | ((with_reducible first | refine an rfl (ar fun K' hK'=>aa ?_) | refine hK' _ (ab fun Y hY=>aa ?_) | refine ae tk0 bS (ab fun Y hY=>aa ?_) | refine aa ?_ | refine ao ?_);(try clear hK' K');(try dsimp only [aop]);try simp only [go_sem,seval,-Int.reduceNatCast,-Int.reduceNatCast',bS,Tryz.results59,h2]) | (with_reducible first | refine af ?_ | refine ai ?_ | refine aj ?_ | refine ay fun K hK=>?_ | refine au ?_) | (with_reducible refine hK _ ?_;clear hK K) | (with_reducible refine ah (h1) ?_))
def cF : Nat→List Nat
 | 0=>[0,1]
 | 1=>[2,3]
 | _=>[]
def eR : Nat→List Nat
 | 0=>[0,1]
 | 1=>[1,2]
 | _=>[]
set_option maxRecDepth 100000 in
set_option maxHeartbeats 8000000 in
theorem vT : ∀ (b : Nat) (z : Int),z = (b : Int)→b≤1000→∀ f,OkF f→AFn Tryz.prog 56 [.agg (foA f),inA z] [] (.c (.bool (fX b f))) []
 | 0,z,hz,_,.mk k l ks,_=>by
  subst hz
  rw [foA]
  show AFn _ _ _ _ (.c (.bool true)) _
  refine aD [] Tryz.func56 rfl Tryz.ntmps56 (Nat.le_of_ble_eq_true rfl) (Nat.le_of_ble_eq_true rfl) fun w0 G0 B0 Pr hB0=>?_
  simp only [aO,aA,List.cons_append,List.nil_append]
  repeat' (first | (with_reducible refine hY _ ?_;clear hY Y) | ((with_reducible first | refine an rfl (ar fun K' hK'=>aa ?_) | refine hK' _ (ab fun Y hY=>aa ?_) | refine bl rfl (ab fun Y hY=>aa ?_) | refine ab fun Y hY=>aa ?_ | refine ae tk0 cF (ab fun Y hY=>aa ?_) | refine aa ?_ | refine ao ?_);(try clear hK' K');(try dsimp only [aop]);try simp only [go_sem,seval,-Int.reduceNatCast,-Int.reduceNatCast',cF,Tryz.results56]) | (with_reducible first | refine af ?_ | refine bh rfl ?_ | refine cS ?_ ?_ | refine ai ?_ | refine aj ?_ | refine ay fun K hK=>?_ | refine au ?_) | (with_reducible refine hK _ ?_;clear hK K) | ((with_reducible refine aG ?_ ?_);(· decide)))
 | b + 1,z,hz,hb,.mk k l ks,hok=>by
  have ih:=vT b (z - 1) (by omega) (by omega)
  have hw : IntKind.i64.wrap (z - 1) = z - 1:=aY (by omega) (by omega)
  have hz1 : (z < 1) = False:=eq_false (by omega)
  have hcl : ∀ y ∈ ks,AFn Tryz.prog 99 [.agg (foA y),.rf [inA z] 0] [] (.c (.bool (fX b y))) []:=fun y hy=>by
   have h1:=ih y (iu hok.2.2 y hy)
   clear ih
   obtain ⟨yk,yl,ys⟩:=y
   simp only [foA] at h1 ⊢
   refine aD [] Tryz.func99 rfl Tryz.ntmps99 (Nat.le_of_ble_eq_true rfl) (Nat.le_of_ble_eq_true rfl) fun w0 G0 B0 Pr hB0=>?_
   simp only [aO,aA,List.cons_append,List.nil_append]
   repeat' (first | (with_reducible refine hY _ ?_;clear hY Y) | ((with_reducible first | refine an rfl (ar fun K' hK'=>aa ?_) | refine hK' _ (ab fun Y hY=>aa ?_) | refine ae tk0 eR (ab fun Y hY=>aa ?_) | refine aa ?_ | refine ao ?_);(try clear hK' K');(try dsimp only [aop]);try simp only [go_sem,seval,-Int.reduceNatCast,-Int.reduceNatCast',eR,Tryz.results99,hw]) | (with_reducible first | refine af ?_ | refine ai ?_ | refine aj ?_ | refine ay fun K hK=>?_ | refine au ?_) | (with_reducible refine hK _ ?_;clear hK K) | (with_reducible refine ah (h1) ?_))
  have hc:=o6 ks 99 [inA z] (fX b) (by kernel_rfl) hok.2.1 hcl
  rw [fX,foA]
  show AFn _ _ _ _ (.c (.bool (ks.any (fX b)))) _
  clear ih hcl
  generalize ks.any (fX b) = R at *
  generalize cD ks = KS at *
  refine aD [] Tryz.func56 rfl Tryz.ntmps56 (Nat.le_of_ble_eq_true rfl) (Nat.le_of_ble_eq_true rfl) fun w0 G0 B0 Pr hB0=>?_
  simp only [aO,aA,List.cons_append,List.nil_append]
  repeat' (first | (with_reducible refine hY _ ?_;clear hY Y) | ((with_reducible first | refine an rfl (ar fun K' hK'=>aa ?_) | refine hK' _ (ab fun Y hY=>aa ?_));(try clear hK' K');(try dsimp only [aop]);try simp only [go_sem,seval,-Int.reduceNatCast,-Int.reduceNatCast',cF,Tryz.results56]) | (with_reducible first | refine af ?_ | refine ai ?_ | refine ay fun K hK=>?_) | ((with_reducible refine cq 1 ?_ ?_);(· rfl)) | ((with_reducible refine bD 1 tk0 cF ?_ (ab fun Y hY=>aa ?_));(· rfl);(try dsimp only [aop]);try simp only [go_sem,seval,-Int.reduceNatCast,-Int.reduceNatCast',cF,Tryz.results56]) | (with_reducible refine hK _ ?_;clear hK K))
  refine mj 10003 ⟨by decide,by decide⟩ rfl rfl (by simp only [go_sem,seval,-Int.reduceNatCast,-Int.reduceNatCast'];exact rfl) (by simp only [go_sem,seval,-Int.reduceNatCast,-Int.reduceNatCast'];exact rfl) ?_
  repeat' (first | (with_reducible refine hY _ ?_;clear hY Y) | ((with_reducible first | refine an rfl (ar fun K' hK'=>aa ?_) | refine hK' _ (ab fun Y hY=>aa ?_) | refine bl rfl (ab fun Y hY=>aa ?_) | refine ab fun Y hY=>aa ?_ | refine ar fun K' hK'=>aa ?_ | refine ae tk0 cF (ab fun Y hY=>aa ?_) | refine aa ?_ | refine ao ?_);(try clear hK' K');(try dsimp only [aop]);try simp only [go_sem,seval,-Int.reduceNatCast,-Int.reduceNatCast',cF,Tryz.results56,hz1]) | (with_reducible first | refine af ?_ | refine aL ?_ | refine ai ?_ | refine aj ?_ | refine ay fun K hK=>?_ | refine au ?_) | (with_reducible refine hK _ ?_;clear hK K) | ((with_reducible refine aG ?_ ?_);(· decide)) | (with_reducible refine ah (hc) ?_))
def cv : Nat→List Nat
 | 0=>[0]
 | 1=>[1]
 | 2=>[1,3]
 | 3=>[1,3,4]
 | 4=>[1,3,4]
 | 5=>[1,3,4]
 | 6=>[3]
 | _=>[]
theorem rl : ∀ (a b : List Fo) (n : Nat),n≤4096→dV a n≤4096→dV (a ++ b) n = dV b (dV a n)
 | [],b,n,_,_=>rfl
 | f :: r,b,n,h,h2=>by
  rw [List.cons_append,dV,dV,if_pos h,if_pos h]
  rw [dV,if_pos h] at h2
  by_cases h3 : n + szF f≤4096
  ·exact rl r b _ h3 h2
  ·have : ∀ l : List Fo,dV l (n + szF f) = n + szF f:=fun l=>by cases l with
    | nil=>rfl
    | cons x y=>rw [dV,if_neg h3]
   rw [this] at h2;omega
theorem vl {ks : List Fo} {k : Nat} {n : Nat} (h : k < ks.length) (hn : n≤4096) (h2 : dV (ks.take k) n≤4096) : dV (ks.take (k + 1)) n = dV (ks.take k) n + szF ks[k]:=by
 rw [List.take_succ_eq_append_getElem h,rl _ _ _ hn h2,dV,if_pos h2];rfl
theorem oq : ∀ (a b : List Fo) (n : Nat),4096 < dV a n→dV (a ++ b) n = dV a n
 | [],b,n,h=>by cases b with
  | nil=>rfl
  | cons x y =>
   have h0 : dV [] n = n:=rfl
   rw [h0] at h ⊢
   rw [List.nil_append,dV,if_neg (by omega)]
 | f :: r,b,n,h=>by
  rw [List.cons_append,dV,dV]
  rw [dV] at h
  by_cases h1 : n≤4096
  ·rw [if_pos h1] at h ⊢;rw [if_pos h1];exact oq r b _ h
  ·rw [if_neg h1,if_neg h1]
set_option maxRecDepth 100000 in
set_option maxHeartbeats 8000000 in
theorem xa : ∀ (b : Nat),b≤1000→∀ f,OkF f→fX b f = false→AFn Tryz.prog 57 [.agg (foA f)] [] (inA (szF f : Int)) []
 | 0,_,f,_,hd=>by simp [fX] at hd
 | b + 1,hb,.mk k l ks,hok,hd=>by
  have ih:=xa b (by omega)
  rw [fX,List.any_eq_false] at hd
  have hds : ∀ y ∈ ks,fX b y = false:=fun y hy=>by simpa using hd y hy
  have hlg:=hok.2.1
  unfold Lg at hlg
  rw [foA,szF]
  refine aD [] Tryz.func57 rfl Tryz.ntmps57 (Nat.le_of_ble_eq_true rfl) (Nat.le_of_ble_eq_true rfl) fun w0 G0 B0 Pr hB0=>?_
  simp only [aO,aA,List.cons_append,List.nil_append]
  repeat' (first | (with_reducible refine hY _ ?_;clear hY Y) | ((with_reducible first | refine an rfl (ar fun K' hK'=>aa ?_) | refine hK' _ (ab fun Y hY=>aa ?_) | refine ae tk0 cv (ab fun Y hY=>aa ?_));(try clear hK' K');(try dsimp only [aop]);try simp only [go_sem,seval,-Int.reduceNatCast,-Int.reduceNatCast',cv,Tryz.results57]) | (with_reducible first | refine af ?_ | refine ai ?_ | refine aj ?_ | refine ay fun K hK=>?_ | refine al ?_ | refine bG ?_) | (with_reducible refine hK _ ?_;clear hK K))
  refine bK (α:=Nat) (fun j=>[(1,.loc 10001 0),(3,inA (dV (ks.take j) 1 : Int)),(4,inA (j : Int)),(10001,.bc [inA k,inA l.c,.sl (aJ l.t) l.t.length .none,.sl (cD ks) ks.length .none] 27)])
   (fun j=>j≤ks.length) (fun j=>ks.length - j) 0 [1,3,4] ?_ (Nat.zero_le _) ?_
  ·simp only [go_sem,seval,-Int.reduceNatCast,-Int.reduceNatCast'] <;> rfl
  intro j hj ihj
  by_cases hlt : j < ks.length
  ·have hlt' : ((j : Int) < (ks.length : Int)) = True:=eq_true (by omega)
   by_cases hs : dV (ks.take j) 1≤4096
   ·have hs' : ((dV (ks.take j) 1 : Int)≤4096) = True:=eq_true (by omega)
    have hkw:=cf (n:=j) (by omega)
    have hg0:=fN hlt
    have hfl:=dC ks
    have h1:=ih ks[j] (iu hok.2.2 _ (List.getElem_mem hlt)) (hds _ (List.getElem_mem hlt))
    have hle:=xk b ks[j] (hds _ (List.getElem_mem hlt))
    have ihj':=ihj (j + 1) (by omega) (by omega)
    rw [vl hlt (by decide) hs] at ihj'
    clear ihj ih hds hd hok
    generalize ks[j] = t at *
    obtain ⟨tk,tl,ts⟩:=t
    simp only [foA] at hg0 h1
    generalize szF (.mk tk tl ts) = S at *
    generalize dV (ks.take j) 1 = N at *
    generalize cD ks = KS at *
    have hw : IntKind.i64.wrap ((N : Int) + (S : Int)) = ((N + S : Nat) : Int):=by rw [aY (by omega) (by omega)];omega
    repeat' (first | (with_reducible refine hY _ ?_;clear hY Y) | ((with_reducible first | refine an rfl (ar fun K' hK'=>aa ?_) | refine hK' _ (ab fun Y hY=>aa ?_) | refine bl rfl (ab fun Y hY=>aa ?_) | refine ab fun Y hY=>aa ?_ | refine ar fun K' hK'=>aa ?_ | refine ae tk0 cv (ab fun Y hY=>aa ?_) | refine aa ?_);(try clear hK' K');(try dsimp only [aop]);try simp only [go_sem,seval,-Int.reduceNatCast,-Int.reduceNatCast',cv,Tryz.results57,hlt',hs',hfl,hg0,hkw,hw]) | (with_reducible first | refine af ?_ | refine aL ?_ | refine ai ?_ | refine aj ?_ | refine ay fun K hK=>?_ | refine ap ?_ | refine aU ?_ | refine al ?_ | refine av ?_) | (with_reducible refine hK _ ?_;clear hK K) | ((with_reducible first | refine aG ?_ ?_ | refine ag ?_ ?_);(· decide)) | (with_reducible refine bp ?_ ?_;(· (try and_intros) <;> first | omega | assumption | (simp only [List.length_append,List.length_map,List.length_cons,List.length_nil] <;> omega))) | (with_reducible refine ah (h1) ?_))
    refine bi [1,3,4] (by simp only [go_sem,seval,-Int.reduceNatCast,-Int.reduceNatCast'];exact rfl) ?_
    exact ihj'
   ·have hs' : ((dV (ks.take j) 1 : Int)≤4096) = False:=eq_false (by omega)
    have he : dV ks 1 = dV (ks.take j) 1:=by
     have:=oq (ks.take j) (ks.drop j) 1 (by omega)
     rwa [List.take_append_drop] at this
    rw [he]
    clear ihj ih hds hd hok he
    generalize dV (ks.take j) 1 = N at *
    generalize cD ks = KS at *
    repeat' (first | (with_reducible refine hY _ ?_;clear hY Y) | ((with_reducible first | refine an rfl (ar fun K' hK'=>aa ?_) | refine hK' _ (ab fun Y hY=>aa ?_) | refine bl rfl (ab fun Y hY=>aa ?_) | refine ab fun Y hY=>aa ?_ | refine ar fun K' hK'=>aa ?_ | refine ae tk0 cv (ab fun Y hY=>aa ?_) | refine aa ?_ | refine ao ?_);(try clear hK' K');(try dsimp only [aop]);try simp only [go_sem,seval,-Int.reduceNatCast,-Int.reduceNatCast',cv,Tryz.results57,hlt',hs']) | (with_reducible first | refine af ?_ | refine aL ?_ | refine ai ?_ | refine aj ?_ | refine ay fun K hK=>?_ | refine aq ?_ | refine bC ?_ | refine bg ?_ | refine au ?_ | refine bf ?_) | (with_reducible refine hK _ ?_;clear hK K) | ((with_reducible first | refine aG ?_ ?_ | refine ag ?_ ?_);(· decide)))
  ·have hlt' : ((j : Int) < (ks.length : Int)) = False:=eq_false (by omega)
   rw [List.take_of_length_le (by omega)]
   clear ihj ih hds hd hok
   generalize dV ks 1 = N at *
   generalize cD ks = KS at *
   repeat' (first | (with_reducible refine hY _ ?_;clear hY Y) | ((with_reducible first | refine an rfl (ar fun K' hK'=>aa ?_) | refine hK' _ (ab fun Y hY=>aa ?_) | refine bl rfl (ab fun Y hY=>aa ?_) | refine ab fun Y hY=>aa ?_ | refine ae tk0 cv (ab fun Y hY=>aa ?_) | refine aa ?_ | refine ao ?_);(try clear hK' K');(try dsimp only [aop]);try simp only [go_sem,seval,-Int.reduceNatCast,-Int.reduceNatCast',cv,Tryz.results57,hlt']) | (with_reducible first | refine af ?_ | refine bh rfl ?_ | refine cS ?_ ?_ | refine ai ?_ | refine aj ?_ | refine ay fun K hK=>?_ | refine aq ?_ | refine bC ?_ | refine bg ?_ | refine au ?_ | refine bf ?_) | (with_reducible refine hK _ ?_;clear hK K) | ((with_reducible first | refine aG ?_ ?_ | refine ag ?_ ?_);(· decide)))
def aQ : Nat→List Nat
 | 0=>[0]
 | 1=>[1]
 | 2=>[1,3]
 | 3=>[]
 | 4=>[1,3,16]
 | 5=>[1,3,16]
 | 6=>[1,3]
 | 7=>[1,3,16]
 | 8=>[1,3,16]
 | 9=>[1]
 | 10=>[1,3,16]
 | 11=>[1,3]
 | 12=>[]
 | 13=>[1,3,16]
 | 14=>[1,3,16]
 | 15=>[1,3]
 | _=>[]
def eS : Nat→List Nat
 | 0=>[0]
 | 1=>[1]
 | _=>[]
set_option maxRecDepth 100000 in
set_option maxHeartbeats 16000000 in
theorem Ar : ∀ f,OkF f→AFn Tryz.prog 58 [.agg (foA f)] [] (.c (.bool (dQ f))) [] :=
 iH fun k l ks hlt hlk hoks ih=>by
  have hcl : ∀ y ∈ ks,AFn Tryz.prog 100 [.agg (foA y)] [] (.c (.bool (!dQ y))) []:=fun y hy=>by
   have h1:=ih y hy
   clear ih
   generalize dQ y = R at *
   obtain ⟨yk,yl,ys⟩:=y
   simp only [foA] at h1 ⊢
   refine aD [] Tryz.func100 rfl Tryz.ntmps100 (Nat.le_of_ble_eq_true rfl) (Nat.le_of_ble_eq_true rfl) fun w0 G0 B0 Pr hB0=>?_
   simp only [aO,aA,List.cons_append,List.nil_append]
   repeat' (first | (with_reducible refine hY _ ?_;clear hY Y) | ((with_reducible first | refine an rfl (ar fun K' hK'=>aa ?_) | refine hK' _ (ab fun Y hY=>aa ?_) | refine ae tk0 eS (ab fun Y hY=>aa ?_) | refine aa ?_ | refine ao ?_);(try clear hK' K');(try dsimp only [aop]);try simp only [go_sem,seval,-Int.reduceNatCast,-Int.reduceNatCast',eS,Tryz.results100]) | (with_reducible first | refine af ?_ | refine ai ?_ | refine aj ?_ | refine ay fun K hK=>?_ | refine au ?_) | (with_reducible refine hK _ ?_;clear hK K) | (with_reducible refine ah (h1) ?_))
  have hc:=x9 ks 100 (fun y=>!dQ y) (by kernel_rfl) hlk hcl
  have hN : (!ks.any fun y=>!dQ y) = ks.all dQ:=xG dQ ks
  have hck:=d3 l
  unfold ip at hck
  rw [dQ,j4,foA,← hN]
  unfold okH ge
  clear hN ih hcl
  generalize hkl : ks.length = n at *
  have hks : n = 0→ks = []:=fun e=>List.eq_nil_of_length_eq_zero (by omega)
  have hA0 : n = 0→(ks.any fun y=>!dQ y) = false:=fun e=>by rw [hks e];rfl
  clear hks
  generalize (ks.any fun y=>!dQ y) = R at *
  generalize cD ks = KS at *
  generalize hlb : cY l = lb at *
  obtain ⟨c,t⟩:=l
  simp only at *
  generalize hnb : (decide (c = 0) && decide ((t.length : Int) = 0)) = nb at *
  refine aD [] Tryz.func58 rfl Tryz.ntmps58 (Nat.le_of_ble_eq_true rfl) (Nat.le_of_ble_eq_true rfl) fun w0 G0 B0 Pr hB0=>?_
  simp only [aO,aA,List.cons_append,List.nil_append]
  apply kW (α:=Bool) (fun b=>[(1,.loc 10001 0),(3,.c (.bool b)),(10001,.bc [inA k,inA c,.sl (aJ t) t.length .none,.sl KS n .none] 27)]) (fun b=>b = nb)
  case use =>
   intro key
   by_cases hc0 : c = 0
   ·have hc0' : (c = 0) = True:=eq_true hc0
    by_cases ht0 : (t.length : Int) = 0
    ·have ht0' : ((t.length : Int) = 0) = True:=eq_true ht0
     have e : nb = true:=by rw [← hnb];simp only [hc0',ht0',decide_true,Bool.and_self]
     repeat' (first | (with_reducible refine hY _ ?_;clear hY Y) | ((with_reducible first | refine an rfl (ar fun K' hK'=>aa ?_) | refine hK' _ (ab fun Y hY=>aa ?_) | refine bl rfl (ab fun Y hY=>aa ?_) | refine ab fun Y hY=>aa ?_ | refine ar fun K' hK'=>aa ?_);(try clear hK' K');(try dsimp only [aop]);try simp only [go_sem,seval,-Int.reduceNatCast,-Int.reduceNatCast',aQ,Tryz.results58,hc0',ht0']) | (with_reducible first | refine af ?_ | refine aL ?_ | refine ai ?_ | refine ay fun K hK=>?_) | ((with_reducible refine cq 2 ?_ ?_);(· rfl)) | ((with_reducible refine bD 2 tk0 aQ ?_ (ab fun Y hY=>aa ?_));(· rfl);(try dsimp only [aop]);try simp only [go_sem,seval,-Int.reduceNatCast,-Int.reduceNatCast',aQ,Tryz.results58,hc0',ht0']) | (with_reducible refine hK _ ?_;clear hK K) | ((with_reducible refine aG ?_ ?_);(· decide)))
     exact bL (L:=[1,3]) (by simp only [go_sem,seval,-Int.reduceNatCast,-Int.reduceNatCast'];try exact rfl) (key true e.symm)
    ·have ht0' : ((t.length : Int) = 0) = False:=eq_false ht0
     have e : nb = false:=by rw [← hnb];simp only [ht0',decide_false,Bool.and_false]
     repeat' (first | (with_reducible refine hY _ ?_;clear hY Y) | ((with_reducible first | refine an rfl (ar fun K' hK'=>aa ?_) | refine hK' _ (ab fun Y hY=>aa ?_) | refine bl rfl (ab fun Y hY=>aa ?_) | refine ab fun Y hY=>aa ?_ | refine ar fun K' hK'=>aa ?_);(try clear hK' K');(try dsimp only [aop]);try simp only [go_sem,seval,-Int.reduceNatCast,-Int.reduceNatCast',aQ,Tryz.results58,hc0',ht0']) | (with_reducible first | refine af ?_ | refine aL ?_ | refine ai ?_ | refine ay fun K hK=>?_) | ((with_reducible refine cq 2 ?_ ?_);(· rfl)) | ((with_reducible refine bD 2 tk0 aQ ?_ (ab fun Y hY=>aa ?_));(· rfl);(try dsimp only [aop]);try simp only [go_sem,seval,-Int.reduceNatCast,-Int.reduceNatCast',aQ,Tryz.results58,hc0',ht0']) | (with_reducible refine hK _ ?_;clear hK K) | ((with_reducible refine aG ?_ ?_);(· decide)))
     exact bL (L:=[1,3]) (by simp only [go_sem,seval,-Int.reduceNatCast,-Int.reduceNatCast'];try exact rfl) (key false e.symm)
   ·have hc0' : (c = 0) = False:=eq_false hc0
    have e : nb = false:=by rw [← hnb];simp only [hc0',decide_false,Bool.false_and]
    repeat' (first | (with_reducible refine hY _ ?_;clear hY Y) | ((with_reducible first | refine an rfl (ar fun K' hK'=>aa ?_) | refine hK' _ (ab fun Y hY=>aa ?_) | refine bl rfl (ab fun Y hY=>aa ?_) | refine ab fun Y hY=>aa ?_ | refine aa ?_);(try clear hK' K');(try dsimp only [aop]);try simp only [go_sem,seval,-Int.reduceNatCast,-Int.reduceNatCast',aQ,Tryz.results58,hc0']) | (with_reducible first | refine af ?_ | refine bh rfl ?_ | refine cS ?_ ?_ | refine ai ?_ | refine ay fun K hK=>?_) | ((with_reducible refine cq 2 ?_ ?_);(· rfl)) | ((with_reducible refine bD 2 tk0 aQ ?_ (ab fun Y hY=>aa ?_));(· rfl);(try dsimp only [aop]);try simp only [go_sem,seval,-Int.reduceNatCast,-Int.reduceNatCast',aQ,Tryz.results58,hc0']) | (with_reducible refine hK _ ?_;clear hK K) | ((with_reducible refine aG ?_ ?_);(· decide)))
    exact bL (L:=[1,3]) (by simp only [go_sem,seval,-Int.reduceNatCast,-Int.reduceNatCast'];try exact rfl) (key false e.symm)
  case key =>
  rintro b hb
  subst b
  clear hnb hkl hlt hlk hoks
  by_cases k0 : k = 0∨k = 1
  ·rw [if_pos k0]
   by_cases hn : n = 0
   ·have hn' : ((n : Int) = 0) = True:=eq_true (by omega)
    rw [hA0 hn]
    simp only [hn',decide_true,Bool.and_true,Bool.not_false]
    clear hA0
    rcases k0 with rfl | rfl <;> cases nb
    all_goals
     repeat' (first | (with_reducible refine hY _ ?_;clear hY Y) | ((with_reducible first | refine an rfl (ar fun K' hK'=>aa ?_) | refine hK' _ (ab fun Y hY=>aa ?_) | refine bl rfl (ab fun Y hY=>aa ?_) | refine ab fun Y hY=>aa ?_ | refine ar fun K' hK'=>aa ?_ | refine ae tk0 aQ (ab fun Y hY=>aa ?_) | refine aa ?_ | refine ao ?_);(try clear hK' K');(try dsimp only [aop]);try simp only [go_sem,seval,-Int.reduceNatCast,-Int.reduceNatCast',aQ,Tryz.results58,hn']) | (with_reducible first | refine af ?_ | refine bh rfl ?_ | refine aL ?_ | refine cS ?_ ?_ | refine ai ?_ | refine aj ?_ | refine ay fun K hK=>?_ | refine ap ?_ | refine aq ?_ | refine aS ?_ | refine bb ?_ | refine al ?_ | refine av ?_ | refine au ?_) | (with_reducible refine hK _ ?_;clear hK K) | ((with_reducible first | refine aG ?_ ?_ | refine ag ?_ ?_);(· decide)))
   ·have hn' : ((n : Int) = 0) = False:=eq_false (by omega)
    simp only [hn',decide_false,Bool.and_false,Bool.false_and]
    clear hA0
    rcases k0 with rfl | rfl <;> cases nb
    all_goals
     repeat' (first | (with_reducible refine hY _ ?_;clear hY Y) | ((with_reducible first | refine an rfl (ar fun K' hK'=>aa ?_) | refine hK' _ (ab fun Y hY=>aa ?_) | refine bl rfl (ab fun Y hY=>aa ?_) | refine ab fun Y hY=>aa ?_ | refine ar fun K' hK'=>aa ?_ | refine ae tk0 aQ (ab fun Y hY=>aa ?_) | refine aa ?_ | refine ao ?_);(try clear hK' K');(try dsimp only [aop]);try simp only [go_sem,seval,-Int.reduceNatCast,-Int.reduceNatCast',aQ,Tryz.results58,hn']) | (with_reducible first | refine af ?_ | refine bh rfl ?_ | refine aL ?_ | refine cS ?_ ?_ | refine ai ?_ | refine aj ?_ | refine ay fun K hK=>?_ | refine ap ?_ | refine aq ?_ | refine aS ?_ | refine bb ?_ | refine al ?_ | refine av ?_ | refine au ?_) | (with_reducible refine hK _ ?_;clear hK K) | ((with_reducible first | refine aG ?_ ?_ | refine ag ?_ ?_);(· decide)))
  rw [if_neg k0]
  have a0 : (k = 0) = False:=eq_false fun e=>k0 (.inl e)
  have a1 : (k = 1) = False:=eq_false fun e=>k0 (.inr e)
  by_cases k2 : k = 2∨k = 3
  ·rw [if_pos k2]
   by_cases hn : n = 0
   ·have hn' : ((n : Int) = 0) = True:=eq_true (by omega)
    rw [hA0 hn]
    simp only [hn',decide_true,Bool.and_true,Bool.not_false]
    clear hA0 a0 a1 k0
    cases lb with
    | true =>
     rw [if_pos rfl,cR] at hck
     rcases k2 with rfl | rfl
     all_goals
      repeat' (first | (with_reducible refine hY _ ?_;clear hY Y) | ((with_reducible first | refine an rfl (ar fun K' hK'=>aa ?_) | refine hK' _ (ab fun Y hY=>aa ?_) | refine bl rfl (ab fun Y hY=>aa ?_) | refine ab fun Y hY=>aa ?_ | refine ar fun K' hK'=>aa ?_ | refine ae tk0 aQ (ab fun Y hY=>aa ?_) | refine aa ?_ | refine ao ?_);(try clear hK' K');(try dsimp only [aop]);try simp only [go_sem,seval,-Int.reduceNatCast,-Int.reduceNatCast',aQ,Tryz.results58,hn']) | (with_reducible first | refine af ?_ | refine aL ?_ | refine ai ?_ | refine aj ?_ | refine ay fun K hK=>?_ | refine ap ?_ | refine aq ?_ | refine aS ?_ | refine bb ?_ | refine al ?_ | refine av ?_ | refine au ?_) | (with_reducible refine hK _ ?_;clear hK K) | ((with_reducible first | refine aG ?_ ?_ | refine ag ?_ ?_);(· decide)) | (with_reducible refine ah (hck) ?_) | (with_reducible refine ce (dM) ?_))
    | false =>
     rw [if_neg (by decide),di] at hck
     rcases k2 with rfl | rfl
     all_goals
      repeat' (first | (with_reducible refine hY _ ?_;clear hY Y) | ((with_reducible first | refine an rfl (ar fun K' hK'=>aa ?_) | refine hK' _ (ab fun Y hY=>aa ?_) | refine bl rfl (ab fun Y hY=>aa ?_) | refine ab fun Y hY=>aa ?_ | refine ae tk0 aQ (ab fun Y hY=>aa ?_) | refine aa ?_ | refine ao ?_);(try clear hK' K');(try dsimp only [aop]);try simp only [go_sem,seval,-Int.reduceNatCast,-Int.reduceNatCast',aQ,Tryz.results58,hn']) | (with_reducible first | refine af ?_ | refine bh rfl ?_ | refine cS ?_ ?_ | refine ai ?_ | refine aj ?_ | refine ay fun K hK=>?_ | refine ap ?_ | refine aq ?_ | refine aS ?_ | refine bb ?_ | refine al ?_ | refine av ?_ | refine au ?_) | (with_reducible refine hK _ ?_;clear hK K) | ((with_reducible first | refine aG ?_ ?_ | refine ag ?_ ?_);(· decide)) | (with_reducible refine ah (hck) ?_))
   ·have hn' : ((n : Int) = 0) = False:=eq_false (by omega)
    simp only [hn',decide_false,Bool.and_false,Bool.false_and]
    clear hA0 a0 a1 k0
    cases lb with
    | true =>
     rw [if_pos rfl,cR] at hck
     rcases k2 with rfl | rfl
     all_goals
      repeat' (first | (with_reducible refine hY _ ?_;clear hY Y) | ((with_reducible first | refine an rfl (ar fun K' hK'=>aa ?_) | refine hK' _ (ab fun Y hY=>aa ?_) | refine bl rfl (ab fun Y hY=>aa ?_) | refine ab fun Y hY=>aa ?_ | refine ar fun K' hK'=>aa ?_ | refine ae tk0 aQ (ab fun Y hY=>aa ?_) | refine aa ?_ | refine ao ?_);(try clear hK' K');(try dsimp only [aop]);try simp only [go_sem,seval,-Int.reduceNatCast,-Int.reduceNatCast',aQ,Tryz.results58,hn']) | (with_reducible first | refine af ?_ | refine aL ?_ | refine ai ?_ | refine aj ?_ | refine ay fun K hK=>?_ | refine ap ?_ | refine aq ?_ | refine aS ?_ | refine bb ?_ | refine al ?_ | refine av ?_ | refine au ?_) | (with_reducible refine hK _ ?_;clear hK K) | ((with_reducible first | refine aG ?_ ?_ | refine ag ?_ ?_);(· decide)) | (with_reducible refine ah (hck) ?_) | (with_reducible refine ce (dM) ?_))
    | false =>
     rw [if_neg (by decide),di] at hck
     rcases k2 with rfl | rfl
     all_goals
      repeat' (first | (with_reducible refine hY _ ?_;clear hY Y) | ((with_reducible first | refine an rfl (ar fun K' hK'=>aa ?_) | refine hK' _ (ab fun Y hY=>aa ?_) | refine bl rfl (ab fun Y hY=>aa ?_) | refine ab fun Y hY=>aa ?_ | refine ae tk0 aQ (ab fun Y hY=>aa ?_) | refine aa ?_ | refine ao ?_);(try clear hK' K');(try dsimp only [aop]);try simp only [go_sem,seval,-Int.reduceNatCast,-Int.reduceNatCast',aQ,Tryz.results58,hn']) | (with_reducible first | refine af ?_ | refine bh rfl ?_ | refine cS ?_ ?_ | refine ai ?_ | refine aj ?_ | refine ay fun K hK=>?_ | refine ap ?_ | refine aq ?_ | refine aS ?_ | refine bb ?_ | refine al ?_ | refine av ?_ | refine au ?_) | (with_reducible refine hK _ ?_;clear hK K) | ((with_reducible first | refine aG ?_ ?_ | refine ag ?_ ?_);(· decide)) | (with_reducible refine ah (hck) ?_))
  rw [if_neg k2]
  have a2 : (k = 2) = False:=eq_false fun e=>k2 (.inl e)
  have a3 : (k = 3) = False:=eq_false fun e=>k2 (.inr e)
  by_cases k4 : k = 4
  ·rw [if_pos k4]
   subst k4
   clear a0 a1 a2 a3 k0 k2 hA0 hck
   by_cases hn : n = 1
   ·have hn' : ((n : Int) = 1) = True:=eq_true (by omega)
    simp only [hn',decide_true,Bool.and_true]
    cases nb
    all_goals
     repeat' (first | (with_reducible refine hY _ ?_;clear hY Y) | ((with_reducible first | refine an rfl (ar fun K' hK'=>aa ?_) | refine hK' _ (ab fun Y hY=>aa ?_) | refine bl rfl (ab fun Y hY=>aa ?_) | refine ab fun Y hY=>aa ?_ | refine ar fun K' hK'=>aa ?_ | refine ae tk0 aQ (ab fun Y hY=>aa ?_) | refine aa ?_ | refine ao ?_);(try clear hK' K');(try dsimp only [aop]);try simp only [go_sem,seval,-Int.reduceNatCast,-Int.reduceNatCast',aQ,Tryz.results58,hn']) | (with_reducible first | refine af ?_ | refine bh rfl ?_ | refine aL ?_ | refine cS ?_ ?_ | refine ai ?_ | refine aj ?_ | refine ay fun K hK=>?_ | refine ap ?_ | refine aq ?_ | refine aU ?_ | refine al ?_ | refine av ?_ | refine au ?_) | (with_reducible refine hK _ ?_;clear hK K) | ((with_reducible first | refine aG ?_ ?_ | refine ag ?_ ?_);(· decide)) | (with_reducible refine ah (hc) ?_))
   ·have hn' : ((n : Int) = 1) = False:=eq_false (by omega)
    simp only [hn',decide_false,Bool.and_false,Bool.false_and]
    repeat' (first | (with_reducible refine hY _ ?_;clear hY Y) | ((with_reducible first | refine an rfl (ar fun K' hK'=>aa ?_) | refine hK' _ (ab fun Y hY=>aa ?_) | refine ab fun Y hY=>aa ?_ | refine ae tk0 aQ (ab fun Y hY=>aa ?_) | refine aa ?_ | refine ao ?_);(try clear hK' K');(try dsimp only [aop]);try simp only [go_sem,seval,-Int.reduceNatCast,-Int.reduceNatCast',aQ,Tryz.results58,hn']) | (with_reducible first | refine af ?_ | refine ai ?_ | refine aj ?_ | refine ay fun K hK=>?_ | refine ap ?_ | refine aq ?_ | refine aS ?_ | refine bb ?_ | refine al ?_ | refine au ?_) | (with_reducible refine hK _ ?_;clear hK K) | ((with_reducible refine ag ?_ ?_);(· decide)))
  rw [if_neg k4]
  have a4 : (k = 4) = False:=eq_false k4
  by_cases k5 : k = 5∨k = 6
  ·rw [if_pos k5]
   clear a0 a1 a2 a3 k0 k2 hA0 hck a4 k4
   rcases k5 with rfl | rfl <;> cases nb
   all_goals
    repeat' (first | (with_reducible refine hY _ ?_;clear hY Y) | ((with_reducible first | refine an rfl (ar fun K' hK'=>aa ?_) | refine hK' _ (ab fun Y hY=>aa ?_) | refine bl rfl (ab fun Y hY=>aa ?_) | refine ab fun Y hY=>aa ?_ | refine ar fun K' hK'=>aa ?_ | refine ae tk0 aQ (ab fun Y hY=>aa ?_) | refine aa ?_ | refine ao ?_);(try clear hK' K');(try dsimp only [aop]);try simp only [go_sem,seval,-Int.reduceNatCast,-Int.reduceNatCast',aQ,Tryz.results58]) | (with_reducible first | refine af ?_ | refine bh rfl ?_ | refine aL ?_ | refine cS ?_ ?_ | refine ai ?_ | refine aj ?_ | refine ay fun K hK=>?_ | refine ap ?_ | refine aq ?_ | refine aU ?_ | refine al ?_ | refine av ?_ | refine au ?_) | (with_reducible refine hK _ ?_;clear hK K) | ((with_reducible first | refine aG ?_ ?_ | refine ag ?_ ?_);(· decide)) | (with_reducible refine ah (hc) ?_))
  ·rw [if_neg k5]
   have a5 : (k = 5) = False:=eq_false fun e=>k5 (.inl e)
   have a6 : (k = 6) = False:=eq_false fun e=>k5 (.inr e)
   clear hA0 hck hc
   repeat' (first | (with_reducible refine hY _ ?_;clear hY Y) | ((with_reducible first | refine an rfl (ar fun K' hK'=>aa ?_) | refine hK' _ (ab fun Y hY=>aa ?_) | refine ab fun Y hY=>aa ?_ | refine ae tk0 aQ (ab fun Y hY=>aa ?_) | refine aa ?_ | refine ao ?_);(try clear hK' K');(try dsimp only [aop]);try simp only [go_sem,seval,-Int.reduceNatCast,-Int.reduceNatCast',aQ,Tryz.results58,a0,a1,a2,a3,a4,a5,a6]) | (with_reducible first | refine af ?_ | refine ai ?_ | refine aj ?_ | refine ay fun K hK=>?_ | refine aq ?_ | refine aS ?_ | refine bb ?_ | refine al ?_ | refine au ?_) | (with_reducible refine hK _ ?_;clear hK K) | ((with_reducible refine ag ?_ ?_);(· decide)))
def cm : Nat→List Nat
 | 0=>[0]
 | 1=>[1]
 | 2=>[]
 | 3=>[1]
 | 4=>[]
 | 5=>[1]
 | 6=>[]
 | 7=>[]
 | _=>[]
set_option maxRecDepth 100000 in
set_option maxHeartbeats 8000000 in
theorem td (f : Fo) (hok : OkF f) : AFn Tryz.prog 28 [.agg (foA f)] [] (b9 (dP f)) []:=by
 have h1:=vT 64 64 rfl (by decide) f hok
 have h3:=Ar f hok
 unfold dP
 cases hd : fX 64 f with
 | true =>
  rw [hd] at h1
  rw [if_pos rfl,cK (by decide)]
  obtain ⟨k,l,ks⟩:=f
  simp only [foA] at h1 ⊢
  refine aD [] Tryz.func28 rfl Tryz.ntmps28 (Nat.le_of_ble_eq_true rfl) (Nat.le_of_ble_eq_true rfl) fun w0 G0 B0 Pr hB0=>?_
  simp only [aO,aA,List.cons_append,List.nil_append]
  repeat' (first | (with_reducible refine hY _ ?_;clear hY Y) | ((with_reducible first | refine an rfl (ar fun K' hK'=>aa ?_) | refine hK' _ (ab fun Y hY=>aa ?_) | refine ab fun Y hY=>aa ?_ | refine ae tk0 cm (ab fun Y hY=>aa ?_) | refine aa ?_ | refine ao ?_);(try clear hK' K');(try dsimp only [aop]);try simp only [go_sem,seval,-Int.reduceNatCast,-Int.reduceNatCast',cm,Tryz.results28]) | (with_reducible first | refine af ?_ | refine ai ?_ | refine aj ?_ | refine ay fun K hK=>?_ | refine ap ?_ | refine aS ?_ | refine bb ?_ | refine al ?_ | refine au ?_) | (with_reducible refine hK _ ?_;clear hK K) | ((with_reducible refine ag ?_ ?_);(· decide)) | (with_reducible refine ah (h1) ?_))
  all_goals rfl
 | false =>
  rw [hd] at h1
  rw [if_neg (by decide)]
  have h2:=xa 64 (by decide) f hok hd
  generalize szF f = S at *
  generalize dQ f = R at *
  clear hok
  obtain ⟨k,l,ks⟩:=f
  simp only [foA] at h1 h2 h3 ⊢
  by_cases hs : 4096 < S
  ·have hs' : ((4096 : Int) < (S : Int)) = True:=eq_true (by omega)
   rw [if_pos hs,gZ]
   refine aD [] Tryz.func28 rfl Tryz.ntmps28 (Nat.le_of_ble_eq_true rfl) (Nat.le_of_ble_eq_true rfl) fun w0 G0 B0 Pr hB0=>?_
   simp only [aO,aA,List.cons_append,List.nil_append]
   repeat' (first | (with_reducible refine hY _ ?_;clear hY Y) | ((with_reducible first | refine an rfl (ar fun K' hK'=>aa ?_) | refine hK' _ (ab fun Y hY=>aa ?_) | refine ab fun Y hY=>aa ?_ | refine ae tk0 cm (ab fun Y hY=>aa ?_) | refine aa ?_ | refine ao ?_);(try clear hK' K');(try dsimp only [aop]);try simp only [go_sem,seval,-Int.reduceNatCast,-Int.reduceNatCast',cm,Tryz.results28,hs']) | (with_reducible first | refine af ?_ | refine ai ?_ | refine aj ?_ | refine ay fun K hK=>?_ | refine ap ?_ | refine aq ?_ | refine aS ?_ | refine bb ?_ | refine al ?_ | refine au ?_) | (with_reducible refine hK _ ?_;clear hK K) | ((with_reducible refine ag ?_ ?_);(· decide)) | (with_reducible refine ah (h1) ?_) | (with_reducible refine ah (h2) ?_))
  ·have hs' : ((4096 : Int) < (S : Int)) = False:=eq_false (by omega)
   rw [if_neg hs]
   cases R with
   | true =>
    rw [if_pos rfl,cR]
    refine aD [] Tryz.func28 rfl Tryz.ntmps28 (Nat.le_of_ble_eq_true rfl) (Nat.le_of_ble_eq_true rfl) fun w0 G0 B0 Pr hB0=>?_
    simp only [aO,aA,List.cons_append,List.nil_append]
    repeat' (first | (with_reducible refine hY _ ?_;clear hY Y) | ((with_reducible first | refine an rfl (ar fun K' hK'=>aa ?_) | refine hK' _ (ab fun Y hY=>aa ?_) | refine ab fun Y hY=>aa ?_ | refine ae tk0 cm (ab fun Y hY=>aa ?_) | refine aa ?_ | refine ao ?_);(try clear hK' K');(try dsimp only [aop]);try simp only [go_sem,seval,-Int.reduceNatCast,-Int.reduceNatCast',cm,Tryz.results28,hs']) | (with_reducible first | refine af ?_ | refine ai ?_ | refine aj ?_ | refine ay fun K hK=>?_ | refine aq ?_ | refine aU ?_ | refine al ?_ | refine av ?_ | refine au ?_) | (with_reducible refine hK _ ?_;clear hK K) | ((with_reducible refine ag ?_ ?_);(· decide)) | (with_reducible refine ah (h1) ?_) | (with_reducible refine ah (h2) ?_) | (with_reducible refine ah (h3) ?_))
   | false =>
    rw [if_neg (by decide),di]
    refine aD [] Tryz.func28 rfl Tryz.ntmps28 (Nat.le_of_ble_eq_true rfl) (Nat.le_of_ble_eq_true rfl) fun w0 G0 B0 Pr hB0=>?_
    simp only [aO,aA,List.cons_append,List.nil_append]
    repeat' (first | (with_reducible refine hY _ ?_;clear hY Y) | ((with_reducible first | refine an rfl (ar fun K' hK'=>aa ?_) | refine hK' _ (ab fun Y hY=>aa ?_) | refine ab fun Y hY=>aa ?_ | refine ae tk0 cm (ab fun Y hY=>aa ?_) | refine aa ?_ | refine ao ?_);(try clear hK' K');(try dsimp only [aop]);try simp only [go_sem,seval,-Int.reduceNatCast,-Int.reduceNatCast',cm,Tryz.results28,hs']) | (with_reducible first | refine af ?_ | refine ai ?_ | refine aj ?_ | refine ay fun K hK=>?_ | refine ap ?_ | refine aq ?_ | refine aS ?_ | refine bb ?_ | refine al ?_ | refine au ?_) | (with_reducible refine hK _ ?_;clear hK K) | ((with_reducible refine ag ?_ ?_);(· decide)) | (with_reducible refine ah (h1) ?_) | (with_reducible refine ah (h2) ?_) | (with_reducible refine ah (h3) ?_))
end Go.Proofs.YtmpdocplcgbpkaaGreatDoor
namespace Go.Proofs.YtmpdocplcgbpkaaGreatDoor
set_option linter.unusedSimpArgs false
set_option linter.unusedVariables false
open Go.RowKit
theorem Bs {k : Int} {l : Ln} {n : Nat} (h : okH k l n = true) : (0≤k∧k≤6)∧(k = 4→n = 1):=by
 unfold okH at h
 by_cases h0 : k = 0
 ·subst h0;exact ⟨by omega,fun e=>by cases e⟩
 by_cases h1 : k = 1
 ·subst h1;exact ⟨by omega,fun e=>by cases e⟩
 by_cases h2 : k = 2
 ·subst h2;exact ⟨by omega,fun e=>by cases e⟩
 by_cases h3 : k = 3
 ·subst h3;exact ⟨by omega,fun e=>by cases e⟩
 by_cases h4 : k = 4
 ·subst h4
  refine ⟨by omega,fun _=>?_⟩
  simp at h
  omega
 by_cases h5 : k = 5
 ·subst h5;exact ⟨by omega,fun e=>by cases e⟩
 by_cases h6 : k = 6
 ·subst h6;exact ⟨by omega,fun e=>by cases e⟩
 simp [h0,h1,h2,h3,h4,h5,h6] at h
theorem rp : ∀ l : List Fo,l.length≤dJ l
 | []=>Nat.le_refl _
 | .mk _ _ ks :: r=>by
  have:=rp r
  rw [dJ,tot,List.length_cons];omega
mutual
theorem ww : ∀ f : Fo,dQ f = true→tot f≤4096→kOk f
 | .mk k l ks,h,ht=>by
  rw [dQ,Bool.and_eq_true] at h
  obtain ⟨h1,h2⟩:=Bs h.1
  rw [tot] at ht
  have:=rp ks
  rw [kOk]
  refine ⟨⟨h1,by omega⟩,fun e hn=>?_,tu ks h.2 (by omega)⟩
  have:=h2 e
  rw [hn] at this;cases this
theorem tu : ∀ l : List Fo,fg l = true→dJ l≤4096→wx l
 | [],_,_=>trivial
 | f :: r,h,ht=>by
  rw [fg,Bool.and_eq_true] at h
  rw [dJ] at ht
  rw [wx]
  exact ⟨ww f h.1 (by omega),tu r h.2 (by omega)⟩
end
theorem uo {f : Fo} (h : dP f = 0) : kOk f:=by
 unfold dP at h
 split at h
 ·cases h
 ·split at h
  ·cases h
  ·rename_i hs
   split at h
   ·rename_i hf
    have hs':=(pO f).1 (by omega)
    exact ww f hf (by omega)
   ·cases h
theorem oR (f : Fo) : dP f = 0∨dP f = 2∨dP f = 4∨dP f = 5:=by
 unfold dP
 repeat' split
 all_goals simp
def c7 (f : Fo) : Nat × Fo:=if dP f = 0 then dG f false else (dP f,fT)
def b8 : Nat→List Nat
 | 0=>[0]
 | 1=>[1,2]
 | 2=>[1,2,4]
 | 3=>[2,4]
 | 4=>[1,2]
 | _=>[]
set_option maxRecDepth 100000 in
set_option maxHeartbeats 8000000 in
theorem uO (f : Fo) (hok : OkF f) : AFn Tryz.prog 17 [.agg (foA f)] [] (gL (c7 f)) []:=by
 have hck:=td f hok
 unfold c7
 rcases oR f with e | e | e | e
 ·rw [if_pos e]
  rw [e] at hck
  have hn:=AM f hok (uo e) false
  rw [cR] at hck
  have hne:=kH f false
  generalize dG f false = q at *
  obtain ⟨k,⟨c,t⟩,ks⟩:=f
  rw [cH] at hck hn ⊢
  rcases hne with e | e | e
  ·obtain ⟨x,⟨rk,⟨rc,rt⟩,rks⟩⟩:=q
   simp only at e
   subst e
   rw [hC] at hn ⊢
   refine aD [] Tryz.func17 rfl Tryz.ntmps17 (Nat.le_of_ble_eq_true rfl) (Nat.le_of_ble_eq_true rfl) fun w0 G0 B0 Pr hB0=>?_
   simp only [aO,aA,List.cons_append,List.nil_append]
   repeat' (first | (with_reducible refine hY _ ?_;clear hY Y) | ((with_reducible first | refine an rfl (ar fun K' hK'=>aa ?_) | refine hK' _ (ab fun Y hY=>aa ?_) | refine ab fun Y hY=>aa ?_ | refine ae tk0 b8 (ab fun Y hY=>aa ?_) | refine aa ?_ | refine ao ?_);(try clear hK' K');(try dsimp only [aop]);try simp only [go_sem,↓reduceIte,Nat.reduceEqDiff,Nat.reduceLT,Nat.reduceLeDiff,Nat.reduceAdd,Nat.reduceSub,Nat.reduceMul,Nat.reduceBEq,Nat.reduceBNe,Nat.reducePow,Int.reduceToNat,Int.reduceLE,Int.reduceLT,Int.reduceMul,Int.reduceEq,Int.reducePow,Int.reduceAdd,Int.reduceSub,Int.reduceNeg,reduceCtorEq,b8,Tryz.results17]) | (with_reducible first | refine af ?_ | refine ai ?_ | refine aj ?_ | refine ay fun K hK=>?_ | refine aq ?_ | refine av ?_ | refine au ?_) | (with_reducible refine hK _ ?_;clear hK K) | ((with_reducible refine ag ?_ ?_);(· decide)) | (with_reducible refine ah (hck) ?_) | (with_reducible refine ce (cr) ?_) | (with_reducible refine ah (hn) ?_))
  ·rw [e,iT] at hn ⊢
   refine aD [] Tryz.func17 rfl Tryz.ntmps17 (Nat.le_of_ble_eq_true rfl) (Nat.le_of_ble_eq_true rfl) fun w0 G0 B0 Pr hB0=>?_
   simp only [aO,aA,List.cons_append,List.nil_append]
   repeat' (first | (with_reducible refine hY _ ?_;clear hY Y) | ((with_reducible first | refine an rfl (ar fun K' hK'=>aa ?_) | refine hK' _ (ab fun Y hY=>aa ?_) | refine ab fun Y hY=>aa ?_ | refine ae tk0 b8 (ab fun Y hY=>aa ?_) | refine aa ?_ | refine ao ?_);(try clear hK' K');(try dsimp only [aop]);try simp only [go_sem,↓reduceIte,Nat.reduceEqDiff,Nat.reduceLT,Nat.reduceLeDiff,Nat.reduceAdd,Nat.reduceSub,Nat.reduceMul,Nat.reduceBEq,Nat.reduceBNe,Nat.reducePow,Int.reduceToNat,Int.reduceLE,Int.reduceLT,Int.reduceMul,Int.reduceEq,Int.reducePow,Int.reduceAdd,Int.reduceSub,Int.reduceNeg,reduceCtorEq,b8,Tryz.results17]) | (with_reducible first | refine af ?_ | refine ai ?_ | refine aj ?_ | refine ay fun K hK=>?_ | refine aq ?_ | refine av ?_ | refine au ?_) | (with_reducible refine hK _ ?_;clear hK K) | ((with_reducible refine ag ?_ ?_);(· decide)) | (with_reducible refine ah (hck) ?_) | (with_reducible refine ce (cr) ?_) | (with_reducible refine ah (hn) ?_))
  ·rw [e,ju] at hn ⊢
   refine aD [] Tryz.func17 rfl Tryz.ntmps17 (Nat.le_of_ble_eq_true rfl) (Nat.le_of_ble_eq_true rfl) fun w0 G0 B0 Pr hB0=>?_
   simp only [aO,aA,List.cons_append,List.nil_append]
   repeat' (first | (with_reducible refine hY _ ?_;clear hY Y) | ((with_reducible first | refine an rfl (ar fun K' hK'=>aa ?_) | refine hK' _ (ab fun Y hY=>aa ?_) | refine ab fun Y hY=>aa ?_ | refine ae tk0 b8 (ab fun Y hY=>aa ?_) | refine aa ?_ | refine ao ?_);(try clear hK' K');(try dsimp only [aop]);try simp only [go_sem,↓reduceIte,Nat.reduceEqDiff,Nat.reduceLT,Nat.reduceLeDiff,Nat.reduceAdd,Nat.reduceSub,Nat.reduceMul,Nat.reduceBEq,Nat.reduceBNe,Nat.reducePow,Int.reduceToNat,Int.reduceLE,Int.reduceLT,Int.reduceMul,Int.reduceEq,Int.reducePow,Int.reduceAdd,Int.reduceSub,Int.reduceNeg,reduceCtorEq,b8,Tryz.results17]) | (with_reducible first | refine af ?_ | refine ai ?_ | refine aj ?_ | refine ay fun K hK=>?_ | refine aq ?_ | refine av ?_ | refine au ?_) | (with_reducible refine hK _ ?_;clear hK K) | ((with_reducible refine ag ?_ ?_);(· decide)) | (with_reducible refine ah (hck) ?_) | (with_reducible refine ce (cr) ?_) | (with_reducible refine ah (hn) ?_))
 ·rw [if_neg (by rw [e];decide),e]
  rw [e,gZ] at hck
  refine dB (r:=zF (.ifc 50 (.c (.int .i64 2)))) ?_ 4 (by simp [wkD,gL,fT,foA,cD,aJ,gZ])
  clear e
  obtain ⟨k,⟨c,t⟩,ks⟩:=f
  rw [cH] at hck ⊢
  refine aD [] Tryz.func17 rfl Tryz.ntmps17 (Nat.le_of_ble_eq_true rfl) (Nat.le_of_ble_eq_true rfl) fun w0 G0 B0 Pr hB0=>?_
  simp only [aO,aA,List.cons_append,List.nil_append]
  repeat' (first | (with_reducible refine hY _ ?_;clear hY Y) | ((with_reducible first | refine an rfl (ar fun K' hK'=>aa ?_) | refine hK' _ (ab fun Y hY=>aa ?_) | refine ab fun Y hY=>aa ?_ | refine ae tk0 b8 (ab fun Y hY=>aa ?_) | refine aa ?_ | refine ao ?_);(try clear hK' K');(try dsimp only [aop]);try simp only [go_sem,↓reduceIte,Nat.reduceEqDiff,Nat.reduceLT,Nat.reduceLeDiff,Nat.reduceAdd,Nat.reduceSub,Nat.reduceMul,Nat.reduceBEq,Nat.reduceBNe,Nat.reducePow,Int.reduceToNat,Int.reduceLE,Int.reduceLT,Int.reduceMul,Int.reduceEq,Int.reducePow,Int.reduceAdd,Int.reduceSub,Int.reduceNeg,reduceCtorEq,b8,Tryz.results17]) | (with_reducible first | refine af ?_ | refine ai ?_ | refine aj ?_ | refine ay fun K hK=>?_ | refine ap ?_ | refine aS ?_ | refine au ?_) | (with_reducible refine hK _ ?_;clear hK K) | ((with_reducible refine ag ?_ ?_);(· decide)) | (with_reducible refine ah (hck) ?_))
 ·rw [if_neg (by rw [e];decide),e]
  rw [e,show b9 4 = .ifc 50 (.c (.int .i64 4)) from rfl] at hck
  refine dB (r:=zF (.ifc 50 (.c (.int .i64 4)))) ?_ 4 (by simp [wkD,gL,fT,foA,cD,aJ];rfl)
  clear e
  obtain ⟨k,⟨c,t⟩,ks⟩:=f
  rw [cH] at hck ⊢
  refine aD [] Tryz.func17 rfl Tryz.ntmps17 (Nat.le_of_ble_eq_true rfl) (Nat.le_of_ble_eq_true rfl) fun w0 G0 B0 Pr hB0=>?_
  simp only [aO,aA,List.cons_append,List.nil_append]
  repeat' (first | (with_reducible refine hY _ ?_;clear hY Y) | ((with_reducible first | refine an rfl (ar fun K' hK'=>aa ?_) | refine hK' _ (ab fun Y hY=>aa ?_) | refine ab fun Y hY=>aa ?_ | refine ae tk0 b8 (ab fun Y hY=>aa ?_) | refine aa ?_ | refine ao ?_);(try clear hK' K');(try dsimp only [aop]);try simp only [go_sem,↓reduceIte,Nat.reduceEqDiff,Nat.reduceLT,Nat.reduceLeDiff,Nat.reduceAdd,Nat.reduceSub,Nat.reduceMul,Nat.reduceBEq,Nat.reduceBNe,Nat.reducePow,Int.reduceToNat,Int.reduceLE,Int.reduceLT,Int.reduceMul,Int.reduceEq,Int.reducePow,Int.reduceAdd,Int.reduceSub,Int.reduceNeg,reduceCtorEq,b8,Tryz.results17]) | (with_reducible first | refine af ?_ | refine ai ?_ | refine aj ?_ | refine ay fun K hK=>?_ | refine ap ?_ | refine aS ?_ | refine au ?_) | (with_reducible refine hK _ ?_;clear hK K) | ((with_reducible refine ag ?_ ?_);(· decide)) | (with_reducible refine ah (hck) ?_))
 ·rw [if_neg (by rw [e];decide),e]
  rw [e,di] at hck
  refine dB (r:=zF (.ifc 50 (.c (.int .i64 5)))) ?_ 4 (by simp [wkD,gL,fT,foA,cD,aJ,di])
  clear e
  obtain ⟨k,⟨c,t⟩,ks⟩:=f
  rw [cH] at hck ⊢
  refine aD [] Tryz.func17 rfl Tryz.ntmps17 (Nat.le_of_ble_eq_true rfl) (Nat.le_of_ble_eq_true rfl) fun w0 G0 B0 Pr hB0=>?_
  simp only [aO,aA,List.cons_append,List.nil_append]
  repeat' (first | (with_reducible refine hY _ ?_;clear hY Y) | ((with_reducible first | refine an rfl (ar fun K' hK'=>aa ?_) | refine hK' _ (ab fun Y hY=>aa ?_) | refine ab fun Y hY=>aa ?_ | refine ae tk0 b8 (ab fun Y hY=>aa ?_) | refine aa ?_ | refine ao ?_);(try clear hK' K');(try dsimp only [aop]);try simp only [go_sem,↓reduceIte,Nat.reduceEqDiff,Nat.reduceLT,Nat.reduceLeDiff,Nat.reduceAdd,Nat.reduceSub,Nat.reduceMul,Nat.reduceBEq,Nat.reduceBNe,Nat.reducePow,Int.reduceToNat,Int.reduceLE,Int.reduceLT,Int.reduceMul,Int.reduceEq,Int.reducePow,Int.reduceAdd,Int.reduceSub,Int.reduceNeg,reduceCtorEq,b8,Tryz.results17]) | (with_reducible first | refine af ?_ | refine ai ?_ | refine aj ?_ | refine ay fun K hK=>?_ | refine ap ?_ | refine aS ?_ | refine au ?_) | (with_reducible refine hK _ ?_;clear hK K) | ((with_reducible refine ag ?_ ?_);(· decide)) | (with_reducible refine ah (hck) ?_))
end Go.Proofs.YtmpdocplcgbpkaaGreatDoor

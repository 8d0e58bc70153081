/- How many parts programs have, in K. -/
import Derived.Test.YtkjnkkmokojnpaaGreatDoorZ7
import Derived.Test.YtkjnkkmokojnpaaGreatDoorZ5
namespace Go.Proofs.YtkjnkkmokojnpaaGreatDoor
set_option linter.unusedSimpArgs false
set_option linter.unusedVariables false
open Go.RowKit
theorem iK (l : List PE) : (bY l).length = l.length * 4:=by rw [mh];exact jv eZ l
theorem lL (l : List PC) : (db l).length = l.length * 3:=by rw [lK];exact jv eR l
theorem nT (l : List PA) : (eT l).length = l.length * 15:=by rw [mg];exact jv eY l
theorem jk (l : List PS') : (dU l).length = l.length * 35:=by rw [nX];exact jv kR l
theorem nU (l : List PP) : (l.flatMap ppA).length = l.length * 34:=jv pR l
theorem xl {l : List PE} {i : Nat} (h : i < l.length) (j : Nat) (hj : j < 4) : (bY l).getD (i * 4 + j) .u = (peA l[i]).getD j .u:=by rw [mh];exact vW eZ h j hj
theorem uX {l : List PC} {i : Nat} (h : i < l.length) (j : Nat) (hj : j < 3) : (db l).getD (i * 3 + j) .u = (bR l[i]).getD j .u:=by rw [lK];exact vW eR h j hj
theorem xi {l : List PA} {i : Nat} (h : i < l.length) (j : Nat) (hj : j < 15) : (eT l).getD (i * 15 + j) .u = (paA l[i]).getD j .u:=by rw [mg];exact vW eY h j hj
theorem tS {l : List PA} {i : Nat} (h : i < l.length) (j n : Nat) (hj : j + n≤15) : ((eT l).drop (i * 15 + j)).take n = ((paA l[i]).drop j).take n:=by rw [mg];exact D5 eY h j n hj
theorem kQ {l : List PE} {i : Nat} (h : i < l.length) : ((bY l).drop (i * 4)).take 4 = peA l[i]:=by rw [mh];exact pi eZ h
theorem pP {l : List PC} {i : Nat} (h : i < l.length) : ((db l).drop (i * 3)).take 3 = bR l[i]:=by rw [lK];exact pi eR h
theorem tR {l : List PA} {i : Nat} (h : i < l.length) : ((eT l).drop (i * 15)).take 15 = paA l[i]:=by rw [mg];exact pi eY h
theorem kS {l : List PS'} {i : Nat} (h : i < l.length) : ((dU l).drop (i * 35)).take 35 = psA l[i]:=by rw [nX];exact pi kR h
theorem mP {l : List PP} {i : Nat} (h : i < l.length) : ((l.flatMap ppA).drop (i * 34)).take 34 = ppA l[i]:=pi pR h
abbrev gw (left : Int) : Prop:=-1≤left∧left≤1000000
def bP : Nat→List Nat
 | 0=>[0,1,2]
 | 1=>[0,1,2]
 | 2=>[]
 | 3=>[0,1,2]
 | 4=>[0,1,2,7]
 | 5=>[0,1,2,7]
 | 6=>[0,1,2,7]
 | 7=>[]
 | 8=>[0,1,2,7]
 | 9=>[1]
 | _=>[]
set_option maxRecDepth 100000 in
set_option maxHeartbeats 4000000 in
theorem Cr (d : Nat) (hd : d≤1000) (h : ∀ (l : List PE) (left : Int) (b : Bool),Lg l→jY l→gw left→AFn Tryz.prog 151 [.sl (bY l) l.length (ofB b),inA left,inA (d : Int)] [] (inA (szE d l left)) []) (l : List PE) (left0 : Int) (b : Bool) (hl : Lg l) (ho : jY l) (hl0 : gw left0) (n : Int) (hn : n = (d : Int) + 1) :
  AFn Tryz.prog 151 [.sl (bY l) l.length (ofB b),inA left0,inA n] [] (inA (oU (szE d) l left0)) []:=by
 unfold Lg at hl
 have hn0 : (n = 0) = False:=eq_false (by omega)
 have hn1 : (n == 0) = false:=by simp;omega
 have hnw : IntKind.i64.wrap (n - 1) = (d : Int):=by rw [bZ (by omega) (by omega)];omega
 obtain ⟨R,hR⟩ : ∃ R,R = oU (szE d) l left0:=⟨_,rfl⟩
 rw [← hR]
 refine aC [] Tryz.func151 rfl Tryz.ntmps151 (Nat.le_of_ble_eq_true rfl) (Nat.le_of_ble_eq_true rfl) fun w0 G0 B0 Pr hB0=>?_
 simp only [aJ,aB,List.cons_append,List.nil_append]
 repeat' (first | (with_reducible refine hY _ ?_;clear hY Y) | ((with_reducible first | refine ar rfl (ay fun K' hK'=>aa ?_) | refine hK' _ (ab fun Y hY=>aa ?_) | refine ab fun Y hY=>aa ?_ | refine ae tk0 bP (ab fun Y hY=>aa ?_));(try clear hK' K');(try dsimp only [aop]);try simp only [go_sem,seval,-Int.reduceNatCast,-Int.reduceNatCast',bP,Tryz.results151,hn0,hn1]) | (with_reducible first | refine ag ?_ | refine aj ?_ | refine am ?_ | refine aF fun K hK=>?_ | refine av ?_ | refine ap ?_ | refine aD ?_ | refine bW ?_) | (with_reducible refine hK _ ?_;clear hK K) | ((with_reducible refine ai ?_ ?_);(· decide)))
 refine b9 (α:=Nat × Int) (fun p=>[(0,.sl (bY l) l.length (ofB b)),(1,inA p.2),(2,inA n),(7,inA (p.1 : Int))])
  (fun p=>p.1≤l.length∧gw p.2∧oU (szE d) (l.drop p.1) p.2 = R) (fun p=>l.length - p.1) (0,left0) [0,1,2,7] ?_ ⟨Nat.zero_le _,hl0,hR.symm⟩ ?_
 ·simp only [go_sem,seval,-Int.reduceNatCast,-Int.reduceNatCast'] <;> rfl
 rintro ⟨k,left⟩ ⟨hk,hlf,hs⟩ ih
 simp only at hk hlf hs ih ⊢
 clear hR hl0
 by_cases hlt : k < l.length
 case neg =>
  have hlt' : ((k : Int) < (l.length : Int)) = False:=eq_false (by omega)
  rw [List.drop_of_length_le (by omega)] at hs
  unfold oU at hs
  subst hs
  repeat' (first | (with_reducible refine hY _ ?_;clear hY Y) | ((with_reducible first | refine ar rfl (ay fun K' hK'=>aa ?_) | refine hK' _ (ab fun Y hY=>aa ?_) | refine ba rfl (ab fun Y hY=>aa ?_) | refine ab fun Y hY=>aa ?_ | refine ae tk0 bP (ab fun Y hY=>aa ?_) | refine aa ?_ | refine aq ?_);(try clear hK' K');(try dsimp only [aop]);try simp only [go_sem,seval,-Int.reduceNatCast,-Int.reduceNatCast',bP,Tryz.results151,hlt']) | (with_reducible first | refine ag ?_ | refine aW rfl ?_ | refine dc ?_ ?_ | refine aj ?_ | refine am ?_ | refine aF fun K hK=>?_ | refine av ?_ | refine cf ?_ | refine bI ?_ | refine aA ?_ | refine bH ?_) | (with_reducible refine hK _ ?_;clear hK K) | ((with_reducible first | refine aI ?_ ?_ | refine ai ?_ ?_);(· decide)))
 have hlt' : ((k : Int) < (l.length : Int)) = True:=eq_true (by omega)
 have hkw : IntKind.i64.wrap ((k : Int) + 1) = ((k + 1 : Nat) : Int):=by rw [bZ (by omega) (by omega)];rfl
 have hg2:=xl hlt 2 (by decide)
 have hg3:=xl hlt 3 (by decide)
 have hfl:=iK l
 have hok:=iU ho l[k] (List.getElem_mem hlt)
 rw [List.drop_eq_getElem_cons hlt] at hs
 generalize l[k] = e at *
 obtain ⟨ek,en,x,ks⟩:=e
 simp only [peA,List.getD_cons_succ,List.getD_cons_zero] at hg2 hg3
 obtain ⟨_,_,hx,hks,hko⟩:=hok
 unfold oU at hs
 by_cases hz : left < 0
 ·rw [if_pos hz] at hs
  subst hs
  have hz' : ((0 : Int)≤left) = False:=eq_false (by omega)
  repeat' (first | (with_reducible refine hY _ ?_;clear hY Y) | ((with_reducible first | refine ar rfl (ay fun K' hK'=>aa ?_) | refine hK' _ (ab fun Y hY=>aa ?_) | refine ba rfl (ab fun Y hY=>aa ?_) | refine ab fun Y hY=>aa ?_ | refine ay fun K' hK'=>aa ?_ | refine ae tk0 bP (ab fun Y hY=>aa ?_) | refine aa ?_ | refine aq ?_);(try clear hK' K');(try dsimp only [aop]);try simp only [go_sem,seval,-Int.reduceNatCast,-Int.reduceNatCast',bP,Tryz.results151,hlt',hz']) | (with_reducible first | refine ag ?_ | refine aK ?_ | refine aj ?_ | refine am ?_ | refine aF fun K hK=>?_ | refine av ?_ | refine cf ?_ | refine bI ?_ | refine aA ?_ | refine bH ?_) | (with_reducible refine hK _ ?_;clear hK K) | ((with_reducible first | refine aI ?_ ?_ | refine ai ?_ ?_);(· decide)))
 rw [if_neg hz] at hs
 have hz' : ((0 : Int)≤left) = True:=eq_true (by omega)
 by_cases hx2 : 200 < x.length
 ·rw [if_pos hx2] at hs
  subst hs
  have hx' : ((200 : Int) < (x.length : Int)) = True:=eq_true (by omega)
  repeat' (first | (with_reducible refine hY _ ?_;clear hY Y) | ((with_reducible first | refine ar rfl (ay fun K' hK'=>aa ?_) | refine hK' _ (ab fun Y hY=>aa ?_) | refine ba rfl (ab fun Y hY=>aa ?_) | refine ab fun Y hY=>aa ?_ | refine ay fun K' hK'=>aa ?_ | refine ae tk0 bP (ab fun Y hY=>aa ?_) | refine aa ?_ | refine aq ?_);(try clear hK' K');(try dsimp only [aop]);try simp only [go_sem,seval,-Int.reduceNatCast,-Int.reduceNatCast',bP,Tryz.results151,hlt',hz',hg2,hfl,hx']) | (with_reducible first | refine ag ?_ | refine aK ?_ | refine aj ?_ | refine am ?_ | refine aF fun K hK=>?_ | refine ax ?_ | refine aZ ?_ | refine bh ?_ | refine ap ?_ | refine aD ?_ | refine aA ?_) | (with_reducible refine hK _ ?_;clear hK K) | ((with_reducible first | refine aI ?_ ?_ | refine ai ?_ ?_);(· decide)) | (with_reducible refine br ?_ ?_;(· (try and_intros) <;> first | omega | assumption | (simp only [List.length_append,List.length_map,List.length_cons,List.length_nil] <;> omega))))
 rw [if_neg hx2] at hs
 have hx' : ((200 : Int) < (x.length : Int)) = False:=eq_false (by omega)
 have hlw : IntKind.i64.wrap (left - 1) = left - 1:=bZ (by omega) (by omega)
 have h1:=h ks (left - 1) false hks hko ⟨by omega,by omega⟩
 have h2:=kC d ks (left - 1) (by omega)
 generalize szE d ks (left - 1) = q at *
 simp only [ofB] at h1
 repeat' (first | (with_reducible refine hY _ ?_;clear hY Y) | ((with_reducible first | refine ar rfl (ay fun K' hK'=>aa ?_) | refine hK' _ (ab fun Y hY=>aa ?_) | refine ba rfl (ab fun Y hY=>aa ?_) | refine ab fun Y hY=>aa ?_ | refine ay fun K' hK'=>aa ?_ | refine ae tk0 bP (ab fun Y hY=>aa ?_) | refine aa ?_);(try clear hK' K');(try dsimp only [aop]);try simp only [go_sem,seval,-Int.reduceNatCast,-Int.reduceNatCast',bP,Tryz.results151,hlt',hz',hg2,hg3,hfl,hx',hlw,hnw,hkw]) | (with_reducible first | refine ag ?_ | refine aK ?_ | refine aj ?_ | refine am ?_ | refine aF fun K hK=>?_ | refine ax ?_ | refine av ?_ | refine aR ?_ | refine ap ?_ | refine aD ?_) | (with_reducible refine hK _ ?_;clear hK K) | ((with_reducible first | refine aI ?_ ?_ | refine ai ?_ ?_);(· decide)) | (with_reducible refine br ?_ ?_;(· (try and_intros) <;> first | omega | assumption | (simp only [List.length_append,List.length_map,List.length_cons,List.length_nil] <;> omega))) | (with_reducible refine ac (h1) ?_))
 refine bi [0,1,2,7] (by simp only [go_sem,seval,-Int.reduceNatCast,-Int.reduceNatCast'];exact rfl) ?_
 exact ih (k + 1,q) ⟨by omega,⟨by omega,by omega⟩,hs⟩ (by show l.length - (k + 1) < l.length - k;omega)
set_option maxRecDepth 100000 in
theorem mj : ∀ (d : Nat),d≤1000→∀ (l : List PE) (left : Int) (b : Bool),Lg l→jY l→gw left→AFn Tryz.prog 151 [.sl (bY l) l.length (ofB b),inA left,inA (d : Int)] [] (inA (szE d l left)) []
 | 0,_,l,left,b,_,_,_=>by
  refine aC [] Tryz.func151 rfl Tryz.ntmps151 (Nat.le_of_ble_eq_true rfl) (Nat.le_of_ble_eq_true rfl) fun w0 G0 B0 Pr hB0=>?_
  simp only [aJ,aB,List.cons_append,List.nil_append]
  repeat' (first | (with_reducible refine hY _ ?_;clear hY Y) | ((with_reducible first | refine ar rfl (ay fun K' hK'=>aa ?_) | refine hK' _ (ab fun Y hY=>aa ?_) | refine ab fun Y hY=>aa ?_ | refine ae tk0 bP (ab fun Y hY=>aa ?_) | refine aa ?_ | refine aq ?_);(try clear hK' K');(try dsimp only [aop]);try simp only [go_sem,seval,-Int.reduceNatCast,-Int.reduceNatCast',bP,Tryz.results151]) | (with_reducible first | refine ag ?_ | refine aj ?_ | refine am ?_ | refine aF fun K hK=>?_ | refine aZ ?_ | refine aA ?_) | (with_reducible refine hK _ ?_;clear hK K) | ((with_reducible refine ai ?_ ?_);(· decide)) | ((with_reducible refine fu (fun hc=>?_) (fun hc=>?_)) <;> (try simp only [decide_eq_true_eq,decide_eq_false_iff_not,Bool.not_true,Bool.not_false,Bool.not_eq_true',Bool.not_eq_false'] at hc) <;> (try (exfalso;omega))))
  all_goals (rfl)
 | d + 1,hd,l,left,b,hl,ho,hf=>Cr d (by omega) (mj d (by omega)) l left b hl ho hf _ rfl
def bO : Nat→List Nat
 | 0=>[0,1,2]
 | 1=>[0,1,2]
 | 2=>[]
 | 3=>[0,1,2]
 | 4=>[0,1,2,7]
 | 5=>[0,1,2,7]
 | 6=>[0,1,2,7]
 | 7=>[0,1,2,7]
 | 8=>[0,1,2,7]
 | 9=>[1]
 | _=>[]
set_option maxRecDepth 100000 in
set_option maxHeartbeats 4000000 in
theorem Cq (d : Nat) (hd : d≤1000) (h : ∀ (l : List PC) (left : Int) (b : Bool),Lg l→rO l→gw left→AFn Tryz.prog 150 [.sl (db l) l.length (ofB b),inA left,inA (d : Int)] [] (inA (szC d l left)) []) (l : List PC) (left0 : Int) (b : Bool) (hl : Lg l) (ho : rO l) (hl0 : gw left0) (n : Int) (hn : n = (d : Int) + 1) :
  AFn Tryz.prog 150 [.sl (db l) l.length (ofB b),inA left0,inA n] [] (inA (oT d (szC d) l left0)) []:=by
 unfold Lg at hl
 have hn0 : (n = 0) = False:=eq_false (by omega)
 have hn1 : (n == 0) = false:=by simp;omega
 have hnw : IntKind.i64.wrap (n - 1) = (d : Int):=by rw [bZ (by omega) (by omega)];omega
 obtain ⟨R,hR⟩ : ∃ R,R = oT d (szC d) l left0:=⟨_,rfl⟩
 rw [← hR]
 refine aC [] Tryz.func150 rfl Tryz.ntmps150 (Nat.le_of_ble_eq_true rfl) (Nat.le_of_ble_eq_true rfl) fun w0 G0 B0 Pr hB0=>?_
 simp only [aJ,aB,List.cons_append,List.nil_append]
 repeat' (first | (with_reducible refine hY _ ?_;clear hY Y) | ((with_reducible first | refine ar rfl (ay fun K' hK'=>aa ?_) | refine hK' _ (ab fun Y hY=>aa ?_) | refine ab fun Y hY=>aa ?_ | refine ae tk0 bO (ab fun Y hY=>aa ?_));(try clear hK' K');(try dsimp only [aop]);try simp only [go_sem,seval,-Int.reduceNatCast,-Int.reduceNatCast',bO,Tryz.results150,hn0,hn1]) | (with_reducible first | refine ag ?_ | refine aj ?_ | refine am ?_ | refine aF fun K hK=>?_ | refine av ?_ | refine ap ?_ | refine aD ?_ | refine bW ?_) | (with_reducible refine hK _ ?_;clear hK K) | ((with_reducible refine ai ?_ ?_);(· decide)))
 refine b9 (α:=Nat × Int) (fun p=>[(0,.sl (db l) l.length (ofB b)),(1,inA p.2),(2,inA n),(7,inA (p.1 : Int))])
  (fun p=>p.1≤l.length∧gw p.2∧oT d (szC d) (l.drop p.1) p.2 = R) (fun p=>l.length - p.1) (0,left0) [0,1,2,7] ?_ ⟨Nat.zero_le _,hl0,hR.symm⟩ ?_
 ·simp only [go_sem,seval,-Int.reduceNatCast,-Int.reduceNatCast'] <;> rfl
 rintro ⟨k,left⟩ ⟨hk,hlf,hs⟩ ih
 simp only at hk hlf hs ih ⊢
 clear hR hl0
 by_cases hlt : k < l.length
 case neg =>
  have hlt' : ((k : Int) < (l.length : Int)) = False:=eq_false (by omega)
  rw [List.drop_of_length_le (by omega)] at hs
  unfold oT at hs
  subst hs
  repeat' (first | (with_reducible refine hY _ ?_;clear hY Y) | ((with_reducible first | refine ar rfl (ay fun K' hK'=>aa ?_) | refine hK' _ (ab fun Y hY=>aa ?_) | refine ba rfl (ab fun Y hY=>aa ?_) | refine ab fun Y hY=>aa ?_ | refine ae tk0 bO (ab fun Y hY=>aa ?_) | refine aa ?_ | refine aq ?_);(try clear hK' K');(try dsimp only [aop]);try simp only [go_sem,seval,-Int.reduceNatCast,-Int.reduceNatCast',bO,Tryz.results150,hlt']) | (with_reducible first | refine ag ?_ | refine aW rfl ?_ | refine dc ?_ ?_ | refine aj ?_ | refine am ?_ | refine aF fun K hK=>?_ | refine av ?_ | refine cf ?_ | refine bI ?_ | refine aA ?_ | refine bH ?_) | (with_reducible refine hK _ ?_;clear hK K) | ((with_reducible first | refine aI ?_ ?_ | refine ai ?_ ?_);(· decide)))
 have hlt' : ((k : Int) < (l.length : Int)) = True:=eq_true (by omega)
 have hkw : IntKind.i64.wrap ((k : Int) + 1) = ((k + 1 : Nat) : Int):=by rw [bZ (by omega) (by omega)];rfl
 have hg1:=uX hlt 1 (by decide)
 have hg2:=uX hlt 2 (by decide)
 have hfl:=lL l
 have hok:=nR ho l[k] (List.getElem_mem hlt)
 rw [List.drop_eq_getElem_cons hlt] at hs
 generalize l[k] = e at *
 obtain ⟨ek,es,ks⟩:=e
 simp only [bR,List.getD_cons_succ,List.getD_cons_zero] at hg1 hg2
 obtain ⟨_,⟨hes,heo⟩,hks,hko⟩:=hok
 unfold oT at hs
 by_cases hz : left < 0
 ·rw [if_pos hz] at hs
  subst hs
  have hz' : ((0 : Int)≤left) = False:=eq_false (by omega)
  repeat' (first | (with_reducible refine hY _ ?_;clear hY Y) | ((with_reducible first | refine ar rfl (ay fun K' hK'=>aa ?_) | refine hK' _ (ab fun Y hY=>aa ?_) | refine ba rfl (ab fun Y hY=>aa ?_) | refine ab fun Y hY=>aa ?_ | refine ay fun K' hK'=>aa ?_ | refine ae tk0 bO (ab fun Y hY=>aa ?_) | refine aa ?_ | refine aq ?_);(try clear hK' K');(try dsimp only [aop]);try simp only [go_sem,seval,-Int.reduceNatCast,-Int.reduceNatCast',bO,Tryz.results150,hlt',hz']) | (with_reducible first | refine ag ?_ | refine aK ?_ | refine aj ?_ | refine am ?_ | refine aF fun K hK=>?_ | refine av ?_ | refine cf ?_ | refine bI ?_ | refine aA ?_ | refine bH ?_) | (with_reducible refine hK _ ?_;clear hK K) | ((with_reducible first | refine aI ?_ ?_ | refine ai ?_ ?_);(· decide)))
 rw [if_neg hz] at hs
 have hz' : ((0 : Int)≤left) = True:=eq_true (by omega)
 have hlw : IntKind.i64.wrap (left - 1) = left - 1:=bZ (by omega) (by omega)
 have h1:=mj d hd es (left - 1) false hes heo ⟨by omega,by omega⟩
 have h2:=kC d es (left - 1) (by omega)
 generalize szE d es (left - 1) = q at *
 have h3:=h ks q false hks hko ⟨by omega,by omega⟩
 have h4:=qx d ks q (by omega)
 generalize szC d ks q = r at *
 simp only [ofB] at h1 h3
 by_cases hq : 0≤q
 ·rw [if_pos hq] at hs
  repeat' (first | (with_reducible refine hY _ ?_;clear hY Y) | ((with_reducible first | refine ar rfl (ay fun K' hK'=>aa ?_) | refine hK' _ (ab fun Y hY=>aa ?_) | refine ba rfl (ab fun Y hY=>aa ?_) | refine ab fun Y hY=>aa ?_ | refine ay fun K' hK'=>aa ?_ | refine ae tk0 bO (ab fun Y hY=>aa ?_) | refine aa ?_);(try clear hK' K');(try dsimp only [aop]);try simp only [go_sem,seval,-Int.reduceNatCast,-Int.reduceNatCast',bO,Tryz.results150,hlt',hz',hg1,hg2,hfl,hlw,hnw,hkw,hq]) | (with_reducible first | refine ag ?_ | refine aK ?_ | refine aj ?_ | refine am ?_ | refine aF fun K hK=>?_ | refine ax ?_ | refine aR ?_ | refine ap ?_ | refine aD ?_) | (with_reducible refine hK _ ?_;clear hK K) | ((with_reducible first | refine aI ?_ ?_ | refine ai ?_ ?_);(· decide)) | (with_reducible refine br ?_ ?_;(· (try and_intros) <;> first | omega | assumption | (simp only [List.length_append,List.length_map,List.length_cons,List.length_nil] <;> omega))) | (with_reducible refine ac (h1) ?_) | (with_reducible refine ac (h3) ?_))
  refine bi [0,1,2,7] (by simp only [go_sem,seval,-Int.reduceNatCast,-Int.reduceNatCast'];exact rfl) ?_
  exact ih (k + 1,r) ⟨by omega,⟨by omega,by omega⟩,hs⟩ (by show l.length - (k + 1) < l.length - k;omega)
 ·rw [if_neg hq] at hs
  repeat' (first | (with_reducible refine hY _ ?_;clear hY Y) | ((with_reducible first | refine ar rfl (ay fun K' hK'=>aa ?_) | refine hK' _ (ab fun Y hY=>aa ?_) | refine ba rfl (ab fun Y hY=>aa ?_) | refine ab fun Y hY=>aa ?_ | refine ay fun K' hK'=>aa ?_ | refine ae tk0 bO (ab fun Y hY=>aa ?_) | refine aa ?_);(try clear hK' K');(try dsimp only [aop]);try simp only [go_sem,seval,-Int.reduceNatCast,-Int.reduceNatCast',bO,Tryz.results150,hlt',hz',hg1,hg2,hfl,hlw,hnw,hkw,hq]) | (with_reducible first | refine ag ?_ | refine aK ?_ | refine aj ?_ | refine am ?_ | refine aF fun K hK=>?_ | refine ax ?_ | refine av ?_ | refine aR ?_ | refine ap ?_ | refine aD ?_) | (with_reducible refine hK _ ?_;clear hK K) | ((with_reducible first | refine aI ?_ ?_ | refine ai ?_ ?_);(· decide)) | (with_reducible refine br ?_ ?_;(· (try and_intros) <;> first | omega | assumption | (simp only [List.length_append,List.length_map,List.length_cons,List.length_nil] <;> omega))) | (with_reducible refine ac (h1) ?_))
  refine bi [0,1,2,7] (by simp only [go_sem,seval,-Int.reduceNatCast,-Int.reduceNatCast'];exact rfl) ?_
  exact ih (k + 1,q) ⟨by omega,⟨by omega,by omega⟩,hs⟩ (by show l.length - (k + 1) < l.length - k;omega)
set_option maxRecDepth 100000 in
theorem tZ : ∀ (d : Nat),d≤1000→∀ (l : List PC) (left : Int) (b : Bool),Lg l→rO l→gw left→AFn Tryz.prog 150 [.sl (db l) l.length (ofB b),inA left,inA (d : Int)] [] (inA (szC d l left)) []
 | 0,_,l,left,b,_,_,_=>by
  refine aC [] Tryz.func150 rfl Tryz.ntmps150 (Nat.le_of_ble_eq_true rfl) (Nat.le_of_ble_eq_true rfl) fun w0 G0 B0 Pr hB0=>?_
  simp only [aJ,aB,List.cons_append,List.nil_append]
  repeat' (first | (with_reducible refine hY _ ?_;clear hY Y) | ((with_reducible first | refine ar rfl (ay fun K' hK'=>aa ?_) | refine hK' _ (ab fun Y hY=>aa ?_) | refine ab fun Y hY=>aa ?_ | refine ae tk0 bO (ab fun Y hY=>aa ?_) | refine aa ?_ | refine aq ?_);(try clear hK' K');(try dsimp only [aop]);try simp only [go_sem,seval,-Int.reduceNatCast,-Int.reduceNatCast',bO,Tryz.results150]) | (with_reducible first | refine ag ?_ | refine aj ?_ | refine am ?_ | refine aF fun K hK=>?_ | refine aZ ?_ | refine aA ?_) | (with_reducible refine hK _ ?_;clear hK K) | ((with_reducible refine ai ?_ ?_);(· decide)) | ((with_reducible refine fu (fun hc=>?_) (fun hc=>?_)) <;> (try simp only [decide_eq_true_eq,decide_eq_false_iff_not,Bool.not_true,Bool.not_false,Bool.not_eq_true',Bool.not_eq_false'] at hc) <;> (try (exfalso;omega))))
  all_goals (rfl)
 | d + 1,hd,l,left,b,hl,ho,hf=>Cq d (by omega) (tZ d (by omega)) l left b hl ho hf _ rfl
theorem xm (e f : PE) : bY [e,f] = peA e ++ peA f:=by simp [bY]
theorem uY (e : PC) : db [e] = bR e:=by simp [db]
theorem Ci (e : PA) : eT [e] = paA e:=by simp [eT]
theorem Cj (e f : PA) : eT [e,f] = paA e ++ paA f:=by simp [eT]
theorem lg1 {α : Type} (a : α) : Lg [a]:=Nat.le_of_ble_eq_true rfl
theorem lg2 {α : Type} (a b : α) : Lg [a,b]:=Nat.le_of_ble_eq_true rfl
def aT : Nat→List Nat
 | 0=>[0,1,2]
 | 1=>[0,1,2]
 | 2=>[]
 | 3=>[0,1,2]
 | 4=>[0,1,2,7]
 | 5=>[0,1,2,7]
 | 6=>[0,1,2,7]
 | 7=>[0,1,2,7]
 | 8=>[0,1,2,7]
 | 9=>[0,1,2,7]
 | 10=>[0,1,2,7]
 | 11=>[0,1,2,7]
 | 12=>[]
 | 13=>[1]
 | _=>[]
set_option maxRecDepth 100000 in
set_option maxHeartbeats 8000000 in
theorem Cp (d : Nat) (hd : d≤1000) (h : ∀ (l : List PA) (left : Int) (b : Bool),Lg l→rN l→gw left→AFn Tryz.prog 62 [.sl (eT l) l.length (ofB b),inA left,inA (d : Int)] [] (inA (szA d l left)) []) (l : List PA) (left0 : Int) (b : Bool) (hl : Lg l) (ho : rN l) (hl0 : gw left0) (n : Int) (hn : n = (d : Int) + 1) :
  AFn Tryz.prog 62 [.sl (eT l) l.length (ofB b),inA left0,inA n] [] (inA (oS d (szA d) l left0)) []:=by
 unfold Lg at hl
 have hn0 : (n = 0) = False:=eq_false (by omega)
 have hn1 : (n == 0) = false:=by simp;omega
 have hnw : IntKind.i64.wrap (n - 1) = (d : Int):=by rw [bZ (by omega) (by omega)];omega
 obtain ⟨R,hR⟩ : ∃ R,R = oS d (szA d) l left0:=⟨_,rfl⟩
 rw [← hR]
 refine aC [] Tryz.func62 rfl Tryz.ntmps62 (Nat.le_of_ble_eq_true rfl) (Nat.le_of_ble_eq_true rfl) fun w0 G0 B0 Pr hB0=>?_
 simp only [aJ,aB,List.cons_append,List.nil_append]
 repeat' (first | (with_reducible refine hY _ ?_;clear hY Y) | ((with_reducible first | refine ar rfl (ay fun K' hK'=>aa ?_) | refine hK' _ (ab fun Y hY=>aa ?_) | refine ab fun Y hY=>aa ?_ | refine ae tk0 aT (ab fun Y hY=>aa ?_));(try clear hK' K');(try dsimp only [aop]);try simp only [go_sem,seval,-Int.reduceNatCast,-Int.reduceNatCast',aT,Tryz.results62,hn0,hn1]) | (with_reducible first | refine ag ?_ | refine aj ?_ | refine am ?_ | refine aF fun K hK=>?_ | refine av ?_ | refine ap ?_ | refine aD ?_ | refine bW ?_) | (with_reducible refine hK _ ?_;clear hK K) | ((with_reducible refine ai ?_ ?_);(· decide)))
 refine b9 (α:=Nat × Int) (fun p=>[(0,.sl (eT l) l.length (ofB b)),(1,inA p.2),(2,inA n),(7,inA (p.1 : Int))])
  (fun p=>p.1≤l.length∧gw p.2∧oS d (szA d) (l.drop p.1) p.2 = R) (fun p=>l.length - p.1) (0,left0) [0,1,2,7] ?_ ⟨Nat.zero_le _,hl0,hR.symm⟩ ?_
 ·simp only [go_sem,seval,-Int.reduceNatCast,-Int.reduceNatCast'] <;> rfl
 rintro ⟨k,left⟩ ⟨hk,hlf,hs⟩ ih
 simp only at hk hlf hs ih ⊢
 clear hR hl0
 by_cases hlt : k < l.length
 case neg =>
  have hlt' : ((k : Int) < (l.length : Int)) = False:=eq_false (by omega)
  rw [List.drop_of_length_le (by omega)] at hs
  unfold oS at hs
  subst hs
  repeat' (first | (with_reducible refine hY _ ?_;clear hY Y) | ((with_reducible first | refine ar rfl (ay fun K' hK'=>aa ?_) | refine hK' _ (ab fun Y hY=>aa ?_) | refine ba rfl (ab fun Y hY=>aa ?_) | refine ab fun Y hY=>aa ?_ | refine ae tk0 aT (ab fun Y hY=>aa ?_) | refine aa ?_ | refine aq ?_);(try clear hK' K');(try dsimp only [aop]);try simp only [go_sem,seval,-Int.reduceNatCast,-Int.reduceNatCast',aT,Tryz.results62,hlt']) | (with_reducible first | refine ag ?_ | refine aW rfl ?_ | refine dc ?_ ?_ | refine aj ?_ | refine am ?_ | refine aF fun K hK=>?_ | refine av ?_ | refine cf ?_ | refine bI ?_ | refine aA ?_ | refine bH ?_) | (with_reducible refine hK _ ?_;clear hK K) | ((with_reducible first | refine aI ?_ ?_ | refine ai ?_ ?_);(· decide)))
 have hlt' : ((k : Int) < (l.length : Int)) = True:=eq_true (by omega)
 have hkw : IntKind.i64.wrap ((k : Int) + 1) = ((k + 1 : Nat) : Int):=by rw [bZ (by omega) (by omega)];rfl
 have hg1:=tS hlt 1 3 (by decide)
 have hg4:=tS hlt 4 4 (by decide)
 have hg8:=tS hlt 8 4 (by decide)
 have hg12:=xi hlt 12 (by decide)
 have hg14:=xi hlt 14 (by decide)
 have hfl:=nT l
 have hok:=nO ho l[k] (List.getElem_mem hlt)
 rw [List.drop_eq_getElem_cons hlt] at hs
 generalize l[k] = e at *
 obtain ⟨ak,c,e,v,x,an,ks⟩:=e
 obtain ⟨_,hc,he,hv,_,_,hks,hko⟩:=hok
 unfold oS at hs
 by_cases hz : left < 0
 ·rw [if_pos hz] at hs
  subst hs
  have hz' : ((0 : Int)≤left) = False:=eq_false (by omega)
  repeat' (first | (with_reducible refine hY _ ?_;clear hY Y) | ((with_reducible first | refine ar rfl (ay fun K' hK'=>aa ?_) | refine hK' _ (ab fun Y hY=>aa ?_) | refine ba rfl (ab fun Y hY=>aa ?_) | refine ab fun Y hY=>aa ?_ | refine ay fun K' hK'=>aa ?_ | refine ae tk0 aT (ab fun Y hY=>aa ?_) | refine aa ?_ | refine aq ?_);(try clear hK' K');(try dsimp only [aop]);try simp only [go_sem,seval,-Int.reduceNatCast,-Int.reduceNatCast',aT,Tryz.results62,hlt',hz']) | (with_reducible first | refine ag ?_ | refine aK ?_ | refine aj ?_ | refine am ?_ | refine aF fun K hK=>?_ | refine av ?_ | refine cf ?_ | refine bI ?_ | refine aA ?_ | refine bH ?_) | (with_reducible refine hK _ ?_;clear hK K) | ((with_reducible first | refine aI ?_ ?_ | refine ai ?_ ?_);(· decide)))
 rw [if_neg hz] at hs
 have hz' : ((0 : Int)≤left) = True:=eq_true (by omega)
 have hlw : IntKind.i64.wrap (left - 1) = left - 1:=bZ (by omega) (by omega)
 have h1:=tZ d hd [c] (left - 1) true (lg1 _) ⟨hc,trivial⟩ ⟨by omega,by omega⟩
 have h2:=qx d [c] (left - 1) (by omega)
 generalize szC d [c] (left - 1) = s0 at *
 have h3:=mj d hd [e,v] s0 true (lg2 _ _) ⟨he,hv,trivial⟩ ⟨by omega,by omega⟩
 have h4:=kC d [e,v] s0 (by omega)
 have hs1 : eM s0 (szE d [e,v]) = if 0≤s0 then szE d [e,v] s0 else s0:=rfl
 rw [hs1] at hs
 clear hs1
 generalize szE d [e,v] s0 = s1 at *
 have h5:=h ks s1 false hks hko ⟨by omega,by omega⟩
 have h6:=tq d ks s1 (by omega)
 rw [uY] at h1
 rw [xm] at h3
 obtain ⟨ck,ce,cks⟩:=c
 obtain ⟨ek,en,ex,eks⟩:=e
 obtain ⟨vk,vn,vx,vks⟩:=v
 simp only [paA,bR,peA,List.cons_append,List.nil_append,List.getD_cons_succ,List.getD_cons_zero,List.drop_succ_cons,List.drop_zero,List.take_succ_cons,List.take_zero] at hg1 hg4 hg8 hg12 hg14
 simp only [bR,peA,ofB,List.length_cons,List.length_nil,Nat.reduceAdd,List.cons_append,List.nil_append] at h1 h3 h5
 have hx : x.length = x.length:=rfl
 rcases (by omega : ¬ 0≤s0∨(0≤s0∧¬ 0≤s1)∨(0≤s0∧0≤s1)) with c0 | ⟨c0,c1⟩ | ⟨c0,c1⟩
 ·rw [if_neg c0] at hs
  rw [show eM s0 (szA d ks) = s0 from if_neg c0] at hs
  by_cases hx2 : 200 < x.length
  ·rw [if_pos hx2] at hs
   subst hs
   have hx' : ((200 : Int) < (x.length : Int)) = True:=eq_true (by omega)
   repeat' (first | (with_reducible refine hY _ ?_;clear hY Y) | ((with_reducible first | refine ar rfl (ay fun K' hK'=>aa ?_) | refine hK' _ (ab fun Y hY=>aa ?_) | refine ba rfl (ab fun Y hY=>aa ?_) | refine ab fun Y hY=>aa ?_ | refine ay fun K' hK'=>aa ?_ | refine ae tk0 aT (ab fun Y hY=>aa ?_) | refine aa ?_ | refine aq ?_);(try clear hK' K');(try dsimp only [aop]);try simp only [go_sem,seval,-Int.reduceNatCast,-Int.reduceNatCast',aT,Tryz.results62,hlt',hz',hg1,hg4,hg8,hg12,hg14,hfl,hlw,hnw,hkw,c0,hx']) | (with_reducible first | refine ag ?_ | refine aK ?_ | refine aj ?_ | refine am ?_ | refine aF fun K hK=>?_ | refine ax ?_ | refine av ?_ | refine aZ ?_ | refine bh ?_ | refine ap ?_ | refine aD ?_ | refine aA ?_) | (with_reducible refine hK _ ?_;clear hK K) | ((with_reducible first | refine aI ?_ ?_ | refine ai ?_ ?_);(· decide)) | (with_reducible refine br ?_ ?_;(· (try and_intros) <;> first | omega | assumption | (simp only [List.length_append,List.length_map,List.length_cons,List.length_nil] <;> omega))) | (with_reducible refine ac (h1) ?_))
  ·rw [if_neg hx2] at hs
   have hx' : ((200 : Int) < (x.length : Int)) = False:=eq_false (by omega)
   repeat' (first | (with_reducible refine hY _ ?_;clear hY Y) | ((with_reducible first | refine ar rfl (ay fun K' hK'=>aa ?_) | refine hK' _ (ab fun Y hY=>aa ?_) | refine ba rfl (ab fun Y hY=>aa ?_) | refine ab fun Y hY=>aa ?_ | refine ay fun K' hK'=>aa ?_ | refine ae tk0 aT (ab fun Y hY=>aa ?_) | refine aa ?_);(try clear hK' K');(try dsimp only [aop]);try simp only [go_sem,seval,-Int.reduceNatCast,-Int.reduceNatCast',aT,Tryz.results62,hlt',hz',hg1,hg4,hg8,hg12,hg14,hfl,hlw,hnw,hkw,c0,hx']) | (with_reducible first | refine ag ?_ | refine aK ?_ | refine aj ?_ | refine am ?_ | refine aF fun K hK=>?_ | refine ax ?_ | refine av ?_ | refine aR ?_ | refine ap ?_ | refine aD ?_) | (with_reducible refine hK _ ?_;clear hK K) | ((with_reducible first | refine aI ?_ ?_ | refine ai ?_ ?_);(· decide)) | (with_reducible refine br ?_ ?_;(· (try and_intros) <;> first | omega | assumption | (simp only [List.length_append,List.length_map,List.length_cons,List.length_nil] <;> omega))) | (with_reducible refine ac (h1) ?_))
   refine bi [0,1,2,7] (by simp only [go_sem,seval,-Int.reduceNatCast,-Int.reduceNatCast'];exact rfl) ?_
   exact ih (k + 1,s0) ⟨by omega,⟨by omega,by omega⟩,hs⟩ (by show l.length - (k + 1) < l.length - k;omega)
 ·rw [if_pos c0] at hs
  rw [show eM s1 (szA d ks) = s1 from if_neg c1] at hs
  by_cases hx2 : 200 < x.length
  ·rw [if_pos hx2] at hs
   subst hs
   have hx' : ((200 : Int) < (x.length : Int)) = True:=eq_true (by omega)
   repeat' (first | (with_reducible refine hY _ ?_;clear hY Y) | ((with_reducible first | refine ar rfl (ay fun K' hK'=>aa ?_) | refine hK' _ (ab fun Y hY=>aa ?_) | refine ba rfl (ab fun Y hY=>aa ?_) | refine ab fun Y hY=>aa ?_ | refine ay fun K' hK'=>aa ?_ | refine ae tk0 aT (ab fun Y hY=>aa ?_) | refine aa ?_ | refine aq ?_ | refine cX rfl (dx fun K' hK'=>aa ?_) | refine hK' _ _ (ab fun Y hY=>aa ?_));(try clear hK' K');(try dsimp only [aop]);try simp only [go_sem,seval,-Int.reduceNatCast,-Int.reduceNatCast',aT,Tryz.results62,hlt',hz',hg1,hg4,hg8,hg12,hg14,hfl,hlw,hnw,hkw,c0,c1,hx']) | (with_reducible first | refine ag ?_ | refine aK ?_ | refine aj ?_ | refine am ?_ | refine aF fun K hK=>?_ | refine ax ?_ | refine av ?_ | refine aZ ?_ | refine bh ?_ | refine ap ?_ | refine aD ?_ | refine aA ?_ | refine bV ?_ | refine eS fun K hK=>?_) | (with_reducible refine hK _ ?_;clear hK K) | (with_reducible refine hK _ _ ?_ ?_;(· kernel_rfl);clear hK K) | ((with_reducible first | refine aI ?_ ?_ | refine ai ?_ ?_);(· decide)) | (with_reducible refine bU tk0 aT ?_ ?_;(· kernel_rfl)) | (with_reducible refine br ?_ ?_;(· (try and_intros) <;> first | omega | assumption | (simp only [List.length_append,List.length_map,List.length_cons,List.length_nil] <;> omega))) | (with_reducible refine ac (h1) ?_) | (with_reducible refine ac (h3) ?_))
  ·rw [if_neg hx2] at hs
   have hx' : ((200 : Int) < (x.length : Int)) = False:=eq_false (by omega)
   repeat' (first | (with_reducible refine hY _ ?_;clear hY Y) | ((with_reducible first | refine ar rfl (ay fun K' hK'=>aa ?_) | refine hK' _ (ab fun Y hY=>aa ?_) | refine ba rfl (ab fun Y hY=>aa ?_) | refine ab fun Y hY=>aa ?_ | refine ay fun K' hK'=>aa ?_ | refine ae tk0 aT (ab fun Y hY=>aa ?_) | refine aa ?_ | refine cX rfl (dx fun K' hK'=>aa ?_) | refine hK' _ _ (ab fun Y hY=>aa ?_));(try clear hK' K');(try dsimp only [aop]);try simp only [go_sem,seval,-Int.reduceNatCast,-Int.reduceNatCast',aT,Tryz.results62,hlt',hz',hg1,hg4,hg8,hg12,hg14,hfl,hlw,hnw,hkw,c0,c1,hx']) | (with_reducible first | refine ag ?_ | refine aK ?_ | refine aj ?_ | refine am ?_ | refine aF fun K hK=>?_ | refine ax ?_ | refine av ?_ | refine aR ?_ | refine ap ?_ | refine aD ?_ | refine bV ?_ | refine eS fun K hK=>?_) | (with_reducible refine hK _ ?_;clear hK K) | (with_reducible refine hK _ _ ?_ ?_;(· kernel_rfl);clear hK K) | ((with_reducible first | refine aI ?_ ?_ | refine ai ?_ ?_);(· decide)) | (with_reducible refine bU tk0 aT ?_ ?_;(· kernel_rfl)) | (with_reducible refine br ?_ ?_;(· (try and_intros) <;> first | omega | assumption | (simp only [List.length_append,List.length_map,List.length_cons,List.length_nil] <;> omega))) | (with_reducible refine ac (h1) ?_) | (with_reducible refine ac (h3) ?_))
   refine bi [0,1,2,7] (by simp only [go_sem,seval,-Int.reduceNatCast,-Int.reduceNatCast'];exact rfl) ?_
   exact ih (k + 1,s1) ⟨by omega,⟨by omega,by omega⟩,hs⟩ (by show l.length - (k + 1) < l.length - k;omega)
 ·rw [if_pos c0] at hs
  rw [show eM s1 (szA d ks) = szA d ks s1 from if_pos c1] at hs
  generalize szA d ks s1 = s2 at *
  by_cases hx2 : 200 < x.length
  ·rw [if_pos hx2] at hs
   subst hs
   have hx' : ((200 : Int) < (x.length : Int)) = True:=eq_true (by omega)
   repeat' (first | (with_reducible refine hY _ ?_;clear hY Y) | ((with_reducible first | refine ar rfl (ay fun K' hK'=>aa ?_) | refine hK' _ (ab fun Y hY=>aa ?_) | refine ba rfl (ab fun Y hY=>aa ?_) | refine ab fun Y hY=>aa ?_ | refine ay fun K' hK'=>aa ?_ | refine ae tk0 aT (ab fun Y hY=>aa ?_) | refine aa ?_ | refine aq ?_ | refine cX rfl (dx fun K' hK'=>aa ?_) | refine hK' _ _ (ab fun Y hY=>aa ?_));(try clear hK' K');(try dsimp only [aop]);try simp only [go_sem,seval,-Int.reduceNatCast,-Int.reduceNatCast',aT,Tryz.results62,hlt',hz',hg1,hg4,hg8,hg12,hg14,hfl,hlw,hnw,hkw,c0,c1,hx']) | (with_reducible first | refine ag ?_ | refine aK ?_ | refine aj ?_ | refine am ?_ | refine aF fun K hK=>?_ | refine ax ?_ | refine aZ ?_ | refine bh ?_ | refine ap ?_ | refine aD ?_ | refine aA ?_ | refine bV ?_ | refine eS fun K hK=>?_) | (with_reducible refine hK _ ?_;clear hK K) | (with_reducible refine hK _ _ ?_ ?_;(· kernel_rfl);clear hK K) | ((with_reducible first | refine aI ?_ ?_ | refine ai ?_ ?_);(· decide)) | (with_reducible refine bU tk0 aT ?_ ?_;(· kernel_rfl)) | (with_reducible refine br ?_ ?_;(· (try and_intros) <;> first | omega | assumption | (simp only [List.length_append,List.length_map,List.length_cons,List.length_nil] <;> omega))) | (with_reducible refine ac (h1) ?_) | (with_reducible refine ac (h3) ?_) | (with_reducible refine ac (h5) ?_))
  ·rw [if_neg hx2] at hs
   have hx' : ((200 : Int) < (x.length : Int)) = False:=eq_false (by omega)
   repeat' (first | (with_reducible refine hY _ ?_;clear hY Y) | ((with_reducible first | refine ar rfl (ay fun K' hK'=>aa ?_) | refine hK' _ (ab fun Y hY=>aa ?_) | refine ba rfl (ab fun Y hY=>aa ?_) | refine ab fun Y hY=>aa ?_ | refine ay fun K' hK'=>aa ?_ | refine ae tk0 aT (ab fun Y hY=>aa ?_) | refine aa ?_ | refine cX rfl (dx fun K' hK'=>aa ?_) | refine hK' _ _ (ab fun Y hY=>aa ?_));(try clear hK' K');(try dsimp only [aop]);try simp only [go_sem,seval,-Int.reduceNatCast,-Int.reduceNatCast',aT,Tryz.results62,hlt',hz',hg1,hg4,hg8,hg12,hg14,hfl,hlw,hnw,hkw,c0,c1,hx']) | (with_reducible first | refine ag ?_ | refine aK ?_ | refine aj ?_ | refine am ?_ | refine aF fun K hK=>?_ | refine ax ?_ | refine av ?_ | refine aR ?_ | refine ap ?_ | refine aD ?_ | refine bV ?_ | refine eS fun K hK=>?_) | (with_reducible refine hK _ ?_;clear hK K) | (with_reducible refine hK _ _ ?_ ?_;(· kernel_rfl);clear hK K) | ((with_reducible first | refine aI ?_ ?_ | refine ai ?_ ?_);(· decide)) | (with_reducible refine bU tk0 aT ?_ ?_;(· kernel_rfl)) | (with_reducible refine br ?_ ?_;(· (try and_intros) <;> first | omega | assumption | (simp only [List.length_append,List.length_map,List.length_cons,List.length_nil] <;> omega))) | (with_reducible refine ac (h1) ?_) | (with_reducible refine ac (h3) ?_) | (with_reducible refine ac (h5) ?_))
   refine bi [0,1,2,7] (by simp only [go_sem,seval,-Int.reduceNatCast,-Int.reduceNatCast'];exact rfl) ?_
   exact ih (k + 1,s2) ⟨by omega,⟨by omega,by omega⟩,hs⟩ (by show l.length - (k + 1) < l.length - k;omega)
set_option maxRecDepth 100000 in
theorem tY : ∀ (d : Nat),d≤1000→∀ (l : List PA) (left : Int) (b : Bool),Lg l→rN l→gw left→AFn Tryz.prog 62 [.sl (eT l) l.length (ofB b),inA left,inA (d : Int)] [] (inA (szA d l left)) []
 | 0,_,l,left,b,_,_,_=>by
  refine aC [] Tryz.func62 rfl Tryz.ntmps62 (Nat.le_of_ble_eq_true rfl) (Nat.le_of_ble_eq_true rfl) fun w0 G0 B0 Pr hB0=>?_
  simp only [aJ,aB,List.cons_append,List.nil_append]
  repeat' (first | (with_reducible refine hY _ ?_;clear hY Y) | ((with_reducible first | refine ar rfl (ay fun K' hK'=>aa ?_) | refine hK' _ (ab fun Y hY=>aa ?_) | refine ab fun Y hY=>aa ?_ | refine ae tk0 aT (ab fun Y hY=>aa ?_) | refine aa ?_ | refine aq ?_);(try clear hK' K');(try dsimp only [aop]);try simp only [go_sem,seval,-Int.reduceNatCast,-Int.reduceNatCast',aT,Tryz.results62]) | (with_reducible first | refine ag ?_ | refine aj ?_ | refine am ?_ | refine aF fun K hK=>?_ | refine aZ ?_ | refine aA ?_) | (with_reducible refine hK _ ?_;clear hK K) | ((with_reducible refine ai ?_ ?_);(· decide)) | ((with_reducible refine fu (fun hc=>?_) (fun hc=>?_)) <;> (try simp only [decide_eq_true_eq,decide_eq_false_iff_not,Bool.not_true,Bool.not_false,Bool.not_eq_true',Bool.not_eq_false'] at hc) <;> (try (exfalso;omega))))
  all_goals (rfl)
 | d + 1,hd,l,left,b,hl,ho,hf=>Cp d (by omega) (tY d (by omega)) l left b hl ho hf _ rfl
end Go.Proofs.YtkjnkkmokojnpaaGreatDoor

/- The document's texts in K: statements. The document's texts in K: statements joined; the text of a program. -/
import Derived.Test.YtkjnkkmokojnpaaGreatDoorZ15
namespace Go.Proofs.YtkjnkkmokojnpaaGreatDoor
set_option linter.unusedSimpArgs false
set_option linter.unusedVariables false
open Go.RowKit
theorem Cb : nmT [] = []:=rfl
theorem Ca {x : Wd} (h : ¬ x = []) : nmT x = x ++ [32,58,61,32]:=if_neg h
def au : Nat→List Nat
 | 0=>[0]
 | 1=>[1]
 | 2=>[1,3]
 | 3=>[1]
 | 4=>[1,3]
 | 5=>[1,3,4]
 | 6=>[1,3,4,19]
 | 7=>[]
 | 8=>[1,3,4,19]
 | 9=>[1,3]
 | 10=>[1,3,4,19]
 | 11=>[3,4]
 | 12=>[1,3,4,19]
 | 13=>[1,4]
 | 14=>[1,3,4,19]
 | 15=>[1,3]
 | 16=>[1,3,4,19]
 | 17=>[4]
 | 18=>[1,3,19]
 | 19=>[1]
 | 20=>[1,3,19]
 | 21=>[1]
 | 22=>[1,3,19]
 | 23=>[1]
 | 24=>[1,3]
 | _=>[]
set_option maxRecDepth 100000 in
set_option maxHeartbeats 8000000 in
theorem CR (x f y : Wd) (e v : PE) (c : PC) (a : PA) (rs gs : List PE) (fs : List Wd) (b l : List PS') (he : TxE e) (hx : x.length≤1000000000000) (hf : f.length≤1000000000000)  : AFn Tryz.prog 90 [.agg (psA (.mk 0 x f y e v c a rs gs fs b l))] [] (bs (aX (tkS (.mk 0 x f y e v c a rs gs fs b l)))) []:=by
 rw [Fy]
 obtain ⟨one,pure,len,g0,g1,g2,g3,s4,s8,s12,s15,g30,g31,g32,g33,g34⟩:=gL 0 x f y e v c a rs gs fs b l
 obtain ⟨le,ce⟩:=he
 have ne:=(cQ e).nm3
 have re:=(cQ e).rn3
 generalize psA (.mk 0 x f y e v c a rs gs fs b l) = SC at *
 generalize peA e = EC at *
 generalize aX (tkE e) = TE at *
 by_cases hn : x = []
 ·subst hn
  refine aC [] Tryz.func90 rfl Tryz.ntmps90 (Nat.le_of_ble_eq_true rfl) (Nat.le_of_ble_eq_true rfl) fun w0 G0 B0 Pr hB0=>?_
  simp only [aJ,aB,List.cons_append,List.nil_append]
  repeat' (first | (with_reducible refine hY _ ?_;clear hY Y) | ((with_reducible first | refine ar rfl (ay fun K' hK'=>aa ?_) | refine hK' _ (ab fun Y hY=>aa ?_) | refine ab fun Y hY=>aa ?_ | refine ae tk0 au (ab fun Y hY=>aa ?_) | refine aa ?_ | refine aq ?_ | refine cX rfl (dx fun K' hK'=>aa ?_) | refine hK' _ _ (ab fun Y hY=>aa ?_));(try clear hK' K');(try dsimp only [aop]);try simp only [go_sem,seval,au,Tryz.results90,one,len,g0,g1,g2,s4,ne,re]) | (with_reducible first | refine ag ?_ | refine aj ?_ | refine am ?_ | refine aF fun K hK=>?_ | refine ax ?_ | refine av ?_ | refine aZ ?_ | refine bh ?_ | refine ap ?_ | refine aD ?_ | refine aA ?_ | refine bV ?_ | refine eS fun K hK=>?_) | (with_reducible refine hK _ ?_;clear hK K) | (with_reducible refine hK _ _ ?_ ?_;(· kernel_rfl);clear hK K) | ((with_reducible refine ai ?_ ?_);(· decide)) | (with_reducible refine bU tk0 au ?_ ?_;(· kernel_rfl)) | (with_reducible refine ac (ce) ?_) | (with_reducible refine bg (cE _ _ ?_) ?_;(· (try simp only [List.length_append,List.length_cons,List.length_nil]);omega)) | (with_reducible refine bg (bN _) ?_))
 ·have hb : (x == []) = false:=by simpa using hn
  refine aC [] Tryz.func90 rfl Tryz.ntmps90 (Nat.le_of_ble_eq_true rfl) (Nat.le_of_ble_eq_true rfl) fun w0 G0 B0 Pr hB0=>?_
  simp only [aJ,aB,List.cons_append,List.nil_append]
  repeat' (first | (with_reducible refine hY _ ?_;clear hY Y) | ((with_reducible first | refine ar rfl (ay fun K' hK'=>aa ?_) | refine hK' _ (ab fun Y hY=>aa ?_) | refine ab fun Y hY=>aa ?_ | refine ae tk0 au (ab fun Y hY=>aa ?_) | refine aa ?_ | refine aq ?_ | refine cX rfl (dx fun K' hK'=>aa ?_) | refine hK' _ _ (ab fun Y hY=>aa ?_));(try clear hK' K');(try dsimp only [aop]);try simp only [go_sem,seval,au,Tryz.results90,one,len,g0,g1,g2,s4,ne,re,hb]) | (with_reducible first | refine ag ?_ | refine aj ?_ | refine am ?_ | refine aF fun K hK=>?_ | refine ax ?_ | refine aZ ?_ | refine bh ?_ | refine ap ?_ | refine aA ?_ | refine bV ?_ | refine eS fun K hK=>?_) | (with_reducible refine hK _ ?_;clear hK K) | (with_reducible refine hK _ _ ?_ ?_;(· kernel_rfl);clear hK K) | ((with_reducible refine ai ?_ ?_);(· decide)) | (with_reducible refine bU tk0 au ?_ ?_;(· kernel_rfl)) | (with_reducible refine ac (ce) ?_) | (with_reducible refine bg (cE _ _ ?_) ?_;(· (try simp only [List.length_append,List.length_cons,List.length_nil]);omega)) | (with_reducible refine bg (bN _) ?_))
set_option maxRecDepth 100000 in
set_option maxHeartbeats 8000000 in
theorem CS (x f y : Wd) (e v : PE) (c : PC) (a : PA) (rs gs : List PE) (fs : List Wd) (b l : List PS') (he : TxE e) (hx : x.length≤1000000000000) (hf : f.length≤1000000000000)  : AFn Tryz.prog 90 [.agg (psA (.mk 1 x f y e v c a rs gs fs b l))] [] (bs (aX (tkS (.mk 1 x f y e v c a rs gs fs b l)))) []:=by
 rw [Fz]
 obtain ⟨one,pure,len,g0,g1,g2,g3,s4,s8,s12,s15,g30,g31,g32,g33,g34⟩:=gL 1 x f y e v c a rs gs fs b l
 obtain ⟨le,ce⟩:=he
 have ne:=(cQ e).nm3
 have re:=(cQ e).rn3
 generalize psA (.mk 1 x f y e v c a rs gs fs b l) = SC at *
 generalize peA e = EC at *
 generalize aX (tkE e) = TE at *
 by_cases hn : x = []
 ·subst hn
  rw [Cb]
  refine aC [] Tryz.func90 rfl Tryz.ntmps90 (Nat.le_of_ble_eq_true rfl) (Nat.le_of_ble_eq_true rfl) fun w0 G0 B0 Pr hB0=>?_
  simp only [aJ,aB,List.cons_append,List.nil_append]
  repeat' (first | (with_reducible refine hY _ ?_;clear hY Y) | ((with_reducible first | refine ar rfl (ay fun K' hK'=>aa ?_) | refine hK' _ (ab fun Y hY=>aa ?_) | refine ab fun Y hY=>aa ?_ | refine ae tk0 au (ab fun Y hY=>aa ?_) | refine aa ?_ | refine aq ?_ | refine cX rfl (dx fun K' hK'=>aa ?_) | refine hK' _ _ (ab fun Y hY=>aa ?_));(try clear hK' K');(try dsimp only [aop]);try simp only [go_sem,seval,au,Tryz.results90,one,len,g0,g1,g2,s4,ne,re]) | (with_reducible first | refine ag ?_ | refine aj ?_ | refine am ?_ | refine aF fun K hK=>?_ | refine ax ?_ | refine av ?_ | refine aZ ?_ | refine bh ?_ | refine ap ?_ | refine aD ?_ | refine aA ?_ | refine bV ?_ | refine eS fun K hK=>?_) | (with_reducible refine hK _ ?_;clear hK K) | (with_reducible refine hK _ _ ?_ ?_;(· kernel_rfl);clear hK K) | ((with_reducible refine ai ?_ ?_);(· decide)) | (with_reducible refine bU tk0 au ?_ ?_;(· kernel_rfl)) | (with_reducible refine ac (ce) ?_) | (with_reducible refine bg (cE _ _ ?_) ?_;(· (try simp only [List.length_append,List.length_cons,List.length_nil]);omega)) | (with_reducible refine bg (bN _) ?_))
 ·have hb : (x == []) = false:=by simpa using hn
  rw [Ca hn]
  refine aC [] Tryz.func90 rfl Tryz.ntmps90 (Nat.le_of_ble_eq_true rfl) (Nat.le_of_ble_eq_true rfl) fun w0 G0 B0 Pr hB0=>?_
  simp only [aJ,aB,List.cons_append,List.nil_append]
  repeat' (first | (with_reducible refine hY _ ?_;clear hY Y) | ((with_reducible first | refine ar rfl (ay fun K' hK'=>aa ?_) | refine hK' _ (ab fun Y hY=>aa ?_) | refine ab fun Y hY=>aa ?_ | refine ae tk0 au (ab fun Y hY=>aa ?_) | refine aa ?_ | refine aq ?_ | refine cX rfl (dx fun K' hK'=>aa ?_) | refine hK' _ _ (ab fun Y hY=>aa ?_));(try clear hK' K');(try dsimp only [aop]);try simp only [go_sem,seval,au,Tryz.results90,one,len,g0,g1,g2,s4,ne,re,hb]) | (with_reducible first | refine ag ?_ | refine aj ?_ | refine am ?_ | refine aF fun K hK=>?_ | refine ax ?_ | refine av ?_ | refine aZ ?_ | refine bh ?_ | refine ap ?_ | refine aA ?_ | refine bV ?_ | refine eS fun K hK=>?_) | (with_reducible refine hK _ ?_;clear hK K) | (with_reducible refine hK _ _ ?_ ?_;(· kernel_rfl);clear hK K) | ((with_reducible refine ai ?_ ?_);(· decide)) | (with_reducible refine bU tk0 au ?_ ?_;(· kernel_rfl)) | (with_reducible refine ac (ce) ?_) | (with_reducible refine bg (cE _ _ ?_) ?_;(· (try simp only [List.length_append,List.length_cons,List.length_nil]);omega)) | (with_reducible refine bg (bN _) ?_))
set_option maxRecDepth 100000 in
set_option maxHeartbeats 8000000 in
theorem CT (x f y : Wd) (e v : PE) (c : PC) (a : PA) (rs gs : List PE) (fs : List Wd) (b l : List PS') (he : TxE e) (hx : x.length≤1000000000000) (hf : f.length≤1000000000000)  : AFn Tryz.prog 90 [.agg (psA (.mk 2 x f y e v c a rs gs fs b l))] [] (bs (aX (tkS (.mk 2 x f y e v c a rs gs fs b l)))) []:=by
 rw [FB]
 obtain ⟨one,pure,len,g0,g1,g2,g3,s4,s8,s12,s15,g30,g31,g32,g33,g34⟩:=gL 2 x f y e v c a rs gs fs b l
 obtain ⟨le,ce⟩:=he
 have ne:=(cQ e).nm3
 have re:=(cQ e).rn3
 unfold plT
 generalize psA (.mk 2 x f y e v c a rs gs fs b l) = SC at *
 generalize peA e = EC at *
 generalize aX (tkE e) = TE at *
 by_cases hn : x = []
 ·subst hn
  rw [Cb]
  refine aC [] Tryz.func90 rfl Tryz.ntmps90 (Nat.le_of_ble_eq_true rfl) (Nat.le_of_ble_eq_true rfl) fun w0 G0 B0 Pr hB0=>?_
  simp only [aJ,aB,List.cons_append,List.nil_append]
  repeat' (first | (with_reducible refine hY _ ?_;clear hY Y) | ((with_reducible first | refine ar rfl (ay fun K' hK'=>aa ?_) | refine hK' _ (ab fun Y hY=>aa ?_) | refine ab fun Y hY=>aa ?_ | refine ae tk0 au (ab fun Y hY=>aa ?_) | refine aa ?_ | refine aq ?_ | refine cX rfl (dx fun K' hK'=>aa ?_) | refine hK' _ _ (ab fun Y hY=>aa ?_));(try clear hK' K');(try dsimp only [aop]);try simp only [go_sem,seval,au,Tryz.results90,one,len,g0,g1,g2,s4,ne,re]) | (with_reducible first | refine ag ?_ | refine aj ?_ | refine am ?_ | refine aF fun K hK=>?_ | refine ax ?_ | refine av ?_ | refine aZ ?_ | refine bh ?_ | refine ap ?_ | refine aD ?_ | refine aA ?_ | refine bV ?_ | refine eS fun K hK=>?_) | (with_reducible refine hK _ ?_;clear hK K) | (with_reducible refine hK _ _ ?_ ?_;(· kernel_rfl);clear hK K) | ((with_reducible refine ai ?_ ?_);(· decide)) | (with_reducible refine bU tk0 au ?_ ?_;(· kernel_rfl)) | (with_reducible refine ac (ce) ?_) | (with_reducible refine bg (cE _ _ ?_) ?_;(· (try simp only [List.length_append,List.length_cons,List.length_nil]);omega)) | (with_reducible refine bg (bN _) ?_))
 ·have hb : (x == []) = false:=by simpa using hn
  rw [Ca hn]
  refine aC [] Tryz.func90 rfl Tryz.ntmps90 (Nat.le_of_ble_eq_true rfl) (Nat.le_of_ble_eq_true rfl) fun w0 G0 B0 Pr hB0=>?_
  simp only [aJ,aB,List.cons_append,List.nil_append]
  repeat' (first | (with_reducible refine hY _ ?_;clear hY Y) | ((with_reducible first | refine ar rfl (ay fun K' hK'=>aa ?_) | refine hK' _ (ab fun Y hY=>aa ?_) | refine ab fun Y hY=>aa ?_ | refine ae tk0 au (ab fun Y hY=>aa ?_) | refine aa ?_ | refine aq ?_ | refine cX rfl (dx fun K' hK'=>aa ?_) | refine hK' _ _ (ab fun Y hY=>aa ?_));(try clear hK' K');(try dsimp only [aop]);try simp only [go_sem,seval,au,Tryz.results90,one,len,g0,g1,g2,s4,ne,re,hb]) | (with_reducible first | refine ag ?_ | refine aj ?_ | refine am ?_ | refine aF fun K hK=>?_ | refine ax ?_ | refine av ?_ | refine aZ ?_ | refine bh ?_ | refine ap ?_ | refine aA ?_ | refine bV ?_ | refine eS fun K hK=>?_) | (with_reducible refine hK _ ?_;clear hK K) | (with_reducible refine hK _ _ ?_ ?_;(· kernel_rfl);clear hK K) | ((with_reducible refine ai ?_ ?_);(· decide)) | (with_reducible refine bU tk0 au ?_ ?_;(· kernel_rfl)) | (with_reducible refine ac (ce) ?_) | (with_reducible refine bg (cE _ _ ?_) ?_;(· (try simp only [List.length_append,List.length_cons,List.length_nil]);omega)) | (with_reducible refine bg (bN _) ?_))
set_option maxRecDepth 100000 in
set_option maxHeartbeats 8000000 in
theorem CU (x f y : Wd) (e v : PE) (c : PC) (a : PA) (rs gs : List PE) (fs : List Wd) (b l : List PS') (he : TxE e) (hx : x.length≤1000000000000) (hf : f.length≤1000000000000) (hv : TxE v) : AFn Tryz.prog 90 [.agg (psA (.mk 3 x f y e v c a rs gs fs b l))] [] (bs (aX (tkS (.mk 3 x f y e v c a rs gs fs b l)))) []:=by
 rw [FD]
 obtain ⟨one,pure,len,g0,g1,g2,g3,s4,s8,s12,s15,g30,g31,g32,g33,g34⟩:=gL 3 x f y e v c a rs gs fs b l
 obtain ⟨le,ce⟩:=he
 have ne:=(cQ e).nm3
 have re:=(cQ e).rn3
 obtain ⟨lv,cv⟩:=hv
 have nv:=(cQ v).nm3
 have rv:=(cQ v).rn3
 unfold plT
 generalize psA (.mk 3 x f y e v c a rs gs fs b l) = SC at *
 generalize peA e = EC at *
 generalize aX (tkE e) = TE at *
 generalize peA v = VC at *
 generalize aX (tkE v) = TV at *
 by_cases hn : x = []
 ·subst hn
  refine aC [] Tryz.func90 rfl Tryz.ntmps90 (Nat.le_of_ble_eq_true rfl) (Nat.le_of_ble_eq_true rfl) fun w0 G0 B0 Pr hB0=>?_
  simp only [aJ,aB,List.cons_append,List.nil_append]
  repeat' (first | (with_reducible refine hY _ ?_;clear hY Y) | ((with_reducible first | refine ar rfl (ay fun K' hK'=>aa ?_) | refine hK' _ (ab fun Y hY=>aa ?_) | refine ab fun Y hY=>aa ?_ | refine ae tk0 au (ab fun Y hY=>aa ?_) | refine aa ?_ | refine aq ?_ | refine cX rfl (dx fun K' hK'=>aa ?_) | refine hK' _ _ (ab fun Y hY=>aa ?_));(try clear hK' K');(try dsimp only [aop]);try simp only [go_sem,seval,au,Tryz.results90,one,len,g0,g1,g2,s4,ne,re,s8,nv,rv]) | (with_reducible first | refine ag ?_ | refine aj ?_ | refine am ?_ | refine aF fun K hK=>?_ | refine ax ?_ | refine av ?_ | refine aZ ?_ | refine bh ?_ | refine ap ?_ | refine aD ?_ | refine aA ?_ | refine bV ?_ | refine eS fun K hK=>?_) | (with_reducible refine hK _ ?_;clear hK K) | (with_reducible refine hK _ _ ?_ ?_;(· kernel_rfl);clear hK K) | ((with_reducible refine ai ?_ ?_);(· decide)) | (with_reducible refine bU tk0 au ?_ ?_;(· kernel_rfl)) | (with_reducible refine ac (ce) ?_) | (with_reducible refine ac (cv) ?_) | (with_reducible refine bg (cE _ _ ?_) ?_;(· (try simp only [List.length_append,List.length_cons,List.length_nil]);omega)) | (with_reducible refine bg (bN _) ?_))
 ·have hb : (x == []) = false:=by simpa using hn
  refine aC [] Tryz.func90 rfl Tryz.ntmps90 (Nat.le_of_ble_eq_true rfl) (Nat.le_of_ble_eq_true rfl) fun w0 G0 B0 Pr hB0=>?_
  simp only [aJ,aB,List.cons_append,List.nil_append]
  repeat' (first | (with_reducible refine hY _ ?_;clear hY Y) | ((with_reducible first | refine ar rfl (ay fun K' hK'=>aa ?_) | refine hK' _ (ab fun Y hY=>aa ?_) | refine ab fun Y hY=>aa ?_ | refine ae tk0 au (ab fun Y hY=>aa ?_) | refine aa ?_ | refine aq ?_ | refine cX rfl (dx fun K' hK'=>aa ?_) | refine hK' _ _ (ab fun Y hY=>aa ?_));(try clear hK' K');(try dsimp only [aop]);try simp only [go_sem,seval,au,Tryz.results90,one,len,g0,g1,g2,s4,ne,re,s8,nv,rv,hb]) | (with_reducible first | refine ag ?_ | refine aj ?_ | refine am ?_ | refine aF fun K hK=>?_ | refine ax ?_ | refine av ?_ | refine aZ ?_ | refine bh ?_ | refine ap ?_ | refine aA ?_ | refine bV ?_ | refine eS fun K hK=>?_) | (with_reducible refine hK _ ?_;clear hK K) | (with_reducible refine hK _ _ ?_ ?_;(· kernel_rfl);clear hK K) | ((with_reducible refine ai ?_ ?_);(· decide)) | (with_reducible refine bU tk0 au ?_ ?_;(· kernel_rfl)) | (with_reducible refine ac (ce) ?_) | (with_reducible refine ac (cv) ?_) | (with_reducible refine bg (cE _ _ ?_) ?_;(· (try simp only [List.length_append,List.length_cons,List.length_nil]);omega)) | (with_reducible refine bg (bN _) ?_))
set_option maxRecDepth 100000 in
set_option maxHeartbeats 8000000 in
theorem CW (x f y : Wd) (e v : PE) (c : PC) (a : PA) (rs gs : List PE) (fs : List Wd) (b l : List PS') (he : TxE e) (hx : x.length≤1000000000000) (hf : f.length≤1000000000000) (hr : AFn Tryz.prog 31 [.sl (fs.map bs) fs.length .none] [] (bs (ig (fs.map fun x=>[x]))) []) (lr : (ig (fs.map fun x=>[x])).length≤1000000000000) : AFn Tryz.prog 90 [.agg (psA (.mk 4 x f y e v c a rs gs fs b l))] [] (bs (aX (tkS (.mk 4 x f y e v c a rs gs fs b l)))) []:=by
 rw [FE]
 obtain ⟨one,pure,len,g0,g1,g2,g3,s4,s8,s12,s15,g30,g31,g32,g33,g34⟩:=gL 4 x f y e v c a rs gs fs b l
 obtain ⟨le,ce⟩:=he
 have ne:=(cQ e).nm3
 have re:=(cQ e).rn3
 generalize psA (.mk 4 x f y e v c a rs gs fs b l) = SC at *
 generalize peA e = EC at *
 generalize aX (tkE e) = TE at *
 generalize ig (fs.map fun x=>[x]) = R at *
 generalize fs.map bs = FC at *
 by_cases hn : x = []
 ·subst hn
  rw [Cb]
  refine aC [] Tryz.func90 rfl Tryz.ntmps90 (Nat.le_of_ble_eq_true rfl) (Nat.le_of_ble_eq_true rfl) fun w0 G0 B0 Pr hB0=>?_
  simp only [aJ,aB,List.cons_append,List.nil_append]
  repeat' (first | (with_reducible refine hY _ ?_;clear hY Y) | ((with_reducible first | refine ar rfl (ay fun K' hK'=>aa ?_) | refine hK' _ (ab fun Y hY=>aa ?_) | refine ab fun Y hY=>aa ?_ | refine ae tk0 au (ab fun Y hY=>aa ?_) | refine aa ?_ | refine aq ?_ | refine cX rfl (dx fun K' hK'=>aa ?_) | refine hK' _ _ (ab fun Y hY=>aa ?_));(try clear hK' K');(try dsimp only [aop]);try simp only [go_sem,seval,au,Tryz.results90,one,len,g0,g1,g2,s4,ne,re,g32]) | (with_reducible first | refine ag ?_ | refine aj ?_ | refine am ?_ | refine aF fun K hK=>?_ | refine ax ?_ | refine av ?_ | refine aZ ?_ | refine bh ?_ | refine ap ?_ | refine aD ?_ | refine aA ?_ | refine bV ?_ | refine eS fun K hK=>?_) | (with_reducible refine hK _ ?_;clear hK K) | (with_reducible refine hK _ _ ?_ ?_;(· kernel_rfl);clear hK K) | ((with_reducible refine ai ?_ ?_);(· decide)) | (with_reducible refine bU tk0 au ?_ ?_;(· kernel_rfl)) | (with_reducible refine ac (ce) ?_) | (with_reducible refine ac (hr) ?_) | (with_reducible refine bg (cE _ _ ?_) ?_;(· (try simp only [List.length_append,List.length_cons,List.length_nil]);omega)) | (with_reducible refine bg (bN _) ?_))
 ·have hb : (x == []) = false:=by simpa using hn
  rw [Ca hn]
  refine aC [] Tryz.func90 rfl Tryz.ntmps90 (Nat.le_of_ble_eq_true rfl) (Nat.le_of_ble_eq_true rfl) fun w0 G0 B0 Pr hB0=>?_
  simp only [aJ,aB,List.cons_append,List.nil_append]
  repeat' (first | (with_reducible refine hY _ ?_;clear hY Y) | ((with_reducible first | refine ar rfl (ay fun K' hK'=>aa ?_) | refine hK' _ (ab fun Y hY=>aa ?_) | refine ab fun Y hY=>aa ?_ | refine ae tk0 au (ab fun Y hY=>aa ?_) | refine aa ?_ | refine aq ?_ | refine cX rfl (dx fun K' hK'=>aa ?_) | refine hK' _ _ (ab fun Y hY=>aa ?_));(try clear hK' K');(try dsimp only [aop]);try simp only [go_sem,seval,au,Tryz.results90,one,len,g0,g1,g2,s4,ne,re,g32,hb]) | (with_reducible first | refine ag ?_ | refine aj ?_ | refine am ?_ | refine aF fun K hK=>?_ | refine ax ?_ | refine av ?_ | refine aZ ?_ | refine bh ?_ | refine ap ?_ | refine aA ?_ | refine bV ?_ | refine eS fun K hK=>?_) | (with_reducible refine hK _ ?_;clear hK K) | (with_reducible refine hK _ _ ?_ ?_;(· kernel_rfl);clear hK K) | ((with_reducible refine ai ?_ ?_);(· decide)) | (with_reducible refine bU tk0 au ?_ ?_;(· kernel_rfl)) | (with_reducible refine ac (ce) ?_) | (with_reducible refine ac (hr) ?_) | (with_reducible refine bg (cE _ _ ?_) ?_;(· (try simp only [List.length_append,List.length_cons,List.length_nil]);omega)) | (with_reducible refine bg (bN _) ?_))
set_option maxRecDepth 100000 in
set_option maxHeartbeats 8000000 in
theorem CX (x f y : Wd) (e v : PE) (c : PC) (a : PA) (rs gs : List PE) (fs : List Wd) (b l : List PS') (he : TxE e) (hx : x.length≤1000000000000) (hf : f.length≤1000000000000)  : AFn Tryz.prog 90 [.agg (psA (.mk 5 x f y e v c a rs gs fs b l))] [] (bs (aX (tkS (.mk 5 x f y e v c a rs gs fs b l)))) []:=by
 rw [FF]
 obtain ⟨one,pure,len,g0,g1,g2,g3,s4,s8,s12,s15,g30,g31,g32,g33,g34⟩:=gL 5 x f y e v c a rs gs fs b l
 obtain ⟨le,ce⟩:=he
 have ne:=(cQ e).nm3
 have re:=(cQ e).rn3
 unfold plT
 generalize psA (.mk 5 x f y e v c a rs gs fs b l) = SC at *
 generalize peA e = EC at *
 generalize aX (tkE e) = TE at *
 by_cases hn : x = []
 ·subst hn
  refine aC [] Tryz.func90 rfl Tryz.ntmps90 (Nat.le_of_ble_eq_true rfl) (Nat.le_of_ble_eq_true rfl) fun w0 G0 B0 Pr hB0=>?_
  simp only [aJ,aB,List.cons_append,List.nil_append]
  repeat' (first | (with_reducible refine hY _ ?_;clear hY Y) | ((with_reducible first | refine ar rfl (ay fun K' hK'=>aa ?_) | refine hK' _ (ab fun Y hY=>aa ?_) | refine ab fun Y hY=>aa ?_ | refine ae tk0 au (ab fun Y hY=>aa ?_) | refine aa ?_ | refine aq ?_ | refine cX rfl (dx fun K' hK'=>aa ?_) | refine hK' _ _ (ab fun Y hY=>aa ?_));(try clear hK' K');(try dsimp only [aop]);try simp only [go_sem,seval,au,Tryz.results90,one,len,g0,g1,g2,s4,ne,re]) | (with_reducible first | refine ag ?_ | refine aj ?_ | refine am ?_ | refine aF fun K hK=>?_ | refine ax ?_ | refine av ?_ | refine aZ ?_ | refine bh ?_ | refine ap ?_ | refine aD ?_ | refine aA ?_ | refine bV ?_ | refine eS fun K hK=>?_) | (with_reducible refine hK _ ?_;clear hK K) | (with_reducible refine hK _ _ ?_ ?_;(· kernel_rfl);clear hK K) | ((with_reducible refine ai ?_ ?_);(· decide)) | (with_reducible refine bU tk0 au ?_ ?_;(· kernel_rfl)) | (with_reducible refine ac (ce) ?_) | (with_reducible refine bg (cE _ _ ?_) ?_;(· (try simp only [List.length_append,List.length_cons,List.length_nil]);omega)) | (with_reducible refine bg (bN _) ?_))
 ·have hb : (x == []) = false:=by simpa using hn
  refine aC [] Tryz.func90 rfl Tryz.ntmps90 (Nat.le_of_ble_eq_true rfl) (Nat.le_of_ble_eq_true rfl) fun w0 G0 B0 Pr hB0=>?_
  simp only [aJ,aB,List.cons_append,List.nil_append]
  repeat' (first | (with_reducible refine hY _ ?_;clear hY Y) | ((with_reducible first | refine ar rfl (ay fun K' hK'=>aa ?_) | refine hK' _ (ab fun Y hY=>aa ?_) | refine ab fun Y hY=>aa ?_ | refine ae tk0 au (ab fun Y hY=>aa ?_) | refine aa ?_ | refine aq ?_ | refine cX rfl (dx fun K' hK'=>aa ?_) | refine hK' _ _ (ab fun Y hY=>aa ?_));(try clear hK' K');(try dsimp only [aop]);try simp only [go_sem,seval,au,Tryz.results90,one,len,g0,g1,g2,s4,ne,re,hb]) | (with_reducible first | refine ag ?_ | refine aj ?_ | refine am ?_ | refine aF fun K hK=>?_ | refine ax ?_ | refine av ?_ | refine aZ ?_ | refine bh ?_ | refine ap ?_ | refine aA ?_ | refine bV ?_ | refine eS fun K hK=>?_) | (with_reducible refine hK _ ?_;clear hK K) | (with_reducible refine hK _ _ ?_ ?_;(· kernel_rfl);clear hK K) | ((with_reducible refine ai ?_ ?_);(· decide)) | (with_reducible refine bU tk0 au ?_ ?_;(· kernel_rfl)) | (with_reducible refine ac (ce) ?_) | (with_reducible refine bg (cE _ _ ?_) ?_;(· (try simp only [List.length_append,List.length_cons,List.length_nil]);omega)) | (with_reducible refine bg (bN _) ?_))
set_option maxRecDepth 100000 in
set_option maxHeartbeats 8000000 in
theorem CY (x f y : Wd) (e v : PE) (c : PC) (a : PA) (rs gs : List PE) (fs : List Wd) (b l : List PS') (he : TxE e) (hx : x.length≤1000000000000) (hf : f.length≤1000000000000) (hc : TxC c) (hb : vK b) (hd : vK l) : AFn Tryz.prog 90 [.agg (psA (.mk 6 x f y e v c a rs gs fs b l))] [] (bs (aX (tkS (.mk 6 x f y e v c a rs gs fs b l)))) []:=by
 rw [FG]
 obtain ⟨one,pure,len,g0,g1,g2,g3,s4,s8,s12,s15,g30,g31,g32,g33,g34⟩:=gL 6 x f y e v c a rs gs fs b l
 obtain ⟨le,ce⟩:=he
 have ne:=(cQ e).nm3
 have re:=(cQ e).rn3
 obtain ⟨lc,cc⟩:=hc
 have nc:=(dv c).nm3
 have rc:=(dv c).rn3
 obtain ⟨lb,cb⟩:=hb
 obtain ⟨ld,cd⟩:=hd
 generalize psA (.mk 6 x f y e v c a rs gs fs b l) = SC at *
 generalize peA e = EC at *
 generalize aX (tkE e) = TE at *
 generalize bR c = CC at *
 generalize aX (tkC c) = TC at *
 generalize ly b = TB at *
 generalize dU b = BC at *
 generalize ly l = TD at *
 generalize dU l = DC at *
 by_cases hn : x = []
 ·subst hn
  refine aC [] Tryz.func90 rfl Tryz.ntmps90 (Nat.le_of_ble_eq_true rfl) (Nat.le_of_ble_eq_true rfl) fun w0 G0 B0 Pr hB0=>?_
  simp only [aJ,aB,List.cons_append,List.nil_append]
  repeat' (first | (with_reducible refine hY _ ?_;clear hY Y) | ((with_reducible first | refine ar rfl (ay fun K' hK'=>aa ?_) | refine hK' _ (ab fun Y hY=>aa ?_) | refine ab fun Y hY=>aa ?_ | refine ae tk0 au (ab fun Y hY=>aa ?_) | refine aa ?_ | refine aq ?_ | refine cX rfl (dx fun K' hK'=>aa ?_) | refine hK' _ _ (ab fun Y hY=>aa ?_));(try clear hK' K');(try dsimp only [aop]);try simp only [go_sem,seval,au,Tryz.results90,one,len,g0,g1,g2,s4,ne,re,s12,nc,rc,g33,g34]) | (with_reducible first | refine ag ?_ | refine aj ?_ | refine am ?_ | refine aF fun K hK=>?_ | refine ax ?_ | refine av ?_ | refine aZ ?_ | refine bh ?_ | refine ap ?_ | refine aD ?_ | refine aA ?_ | refine bV ?_ | refine eS fun K hK=>?_) | (with_reducible refine hK _ ?_;clear hK K) | (with_reducible refine hK _ _ ?_ ?_;(· kernel_rfl);clear hK K) | ((with_reducible refine ai ?_ ?_);(· decide)) | (with_reducible refine bU tk0 au ?_ ?_;(· kernel_rfl)) | (with_reducible refine ac (ce) ?_) | (with_reducible refine ac (cc) ?_) | (with_reducible refine ac (cd) ?_) | (with_reducible refine ac (cb) ?_) | (with_reducible refine bg (cE _ _ ?_) ?_;(· (try simp only [List.length_append,List.length_cons,List.length_nil]);omega)) | (with_reducible refine bg (bN _) ?_))
 ·have hb : (x == []) = false:=by simpa using hn
  refine aC [] Tryz.func90 rfl Tryz.ntmps90 (Nat.le_of_ble_eq_true rfl) (Nat.le_of_ble_eq_true rfl) fun w0 G0 B0 Pr hB0=>?_
  simp only [aJ,aB,List.cons_append,List.nil_append]
  repeat' (first | (with_reducible refine hY _ ?_;clear hY Y) | ((with_reducible first | refine ar rfl (ay fun K' hK'=>aa ?_) | refine hK' _ (ab fun Y hY=>aa ?_) | refine ab fun Y hY=>aa ?_ | refine ae tk0 au (ab fun Y hY=>aa ?_) | refine aa ?_ | refine aq ?_ | refine cX rfl (dx fun K' hK'=>aa ?_) | refine hK' _ _ (ab fun Y hY=>aa ?_));(try clear hK' K');(try dsimp only [aop]);try simp only [go_sem,seval,au,Tryz.results90,one,len,g0,g1,g2,s4,ne,re,s12,nc,rc,g33,g34,hb]) | (with_reducible first | refine ag ?_ | refine aj ?_ | refine am ?_ | refine aF fun K hK=>?_ | refine ax ?_ | refine av ?_ | refine aZ ?_ | refine bh ?_ | refine ap ?_ | refine aA ?_ | refine bV ?_ | refine eS fun K hK=>?_) | (with_reducible refine hK _ ?_;clear hK K) | (with_reducible refine hK _ _ ?_ ?_;(· kernel_rfl);clear hK K) | ((with_reducible refine ai ?_ ?_);(· decide)) | (with_reducible refine bU tk0 au ?_ ?_;(· kernel_rfl)) | (with_reducible refine ac (ce) ?_) | (with_reducible refine ac (cc) ?_) | (with_reducible refine ac (cd) ?_) | (with_reducible refine ac (cb) ?_) | (with_reducible refine bg (cE _ _ ?_) ?_;(· (try simp only [List.length_append,List.length_cons,List.length_nil]);omega)) | (with_reducible refine bg (bN _) ?_))
set_option maxRecDepth 100000 in
set_option maxHeartbeats 8000000 in
theorem CZ (x f y : Wd) (e v : PE) (c : PC) (a : PA) (rs gs : List PE) (fs : List Wd) (b l : List PS') (he : TxE e) (hx : x.length≤1000000000000) (hf : f.length≤1000000000000) (hc : TxC c) (ha : TxA a) (hb : vK b) : AFn Tryz.prog 90 [.agg (psA (.mk 7 x f y e v c a rs gs fs b l))] [] (bs (aX (tkS (.mk 7 x f y e v c a rs gs fs b l)))) []:=by
 rw [FH]
 obtain ⟨one,pure,len,g0,g1,g2,g3,s4,s8,s12,s15,g30,g31,g32,g33,g34⟩:=gL 7 x f y e v c a rs gs fs b l
 obtain ⟨le,ce⟩:=he
 have ne:=(cQ e).nm3
 have re:=(cQ e).rn3
 obtain ⟨lc,cc⟩:=hc
 have nc:=(dv c).nm3
 have rc:=(dv c).rn3
 obtain ⟨lb,cb⟩:=hb
 obtain ⟨la,ca⟩:=ha
 have na:=(dV a).nm3
 have ra:=(dV a).rn3
 generalize psA (.mk 7 x f y e v c a rs gs fs b l) = SC at *
 generalize peA e = EC at *
 generalize aX (tkE e) = TE at *
 generalize bR c = CC at *
 generalize aX (tkC c) = TC at *
 generalize ly b = TB at *
 generalize dU b = BC at *
 generalize paA a = AC at *
 generalize aX (tkA a) = TA at *
 by_cases hn : x = []
 ·subst hn
  refine aC [] Tryz.func90 rfl Tryz.ntmps90 (Nat.le_of_ble_eq_true rfl) (Nat.le_of_ble_eq_true rfl) fun w0 G0 B0 Pr hB0=>?_
  simp only [aJ,aB,List.cons_append,List.nil_append]
  repeat' (first | (with_reducible refine hY _ ?_;clear hY Y) | ((with_reducible first | refine ar rfl (ay fun K' hK'=>aa ?_) | refine hK' _ (ab fun Y hY=>aa ?_) | refine ab fun Y hY=>aa ?_ | refine ae tk0 au (ab fun Y hY=>aa ?_) | refine aa ?_ | refine aq ?_ | refine cX rfl (dx fun K' hK'=>aa ?_) | refine hK' _ _ (ab fun Y hY=>aa ?_));(try clear hK' K');(try dsimp only [aop]);try simp only [go_sem,seval,au,Tryz.results90,one,len,g0,g1,g2,s4,ne,re,s12,nc,rc,g33,s15,na,ra]) | (with_reducible first | refine ag ?_ | refine aj ?_ | refine am ?_ | refine aF fun K hK=>?_ | refine ax ?_ | refine av ?_ | refine aZ ?_ | refine bh ?_ | refine ap ?_ | refine aD ?_ | refine aA ?_ | refine bV ?_ | refine eS fun K hK=>?_) | (with_reducible refine hK _ ?_;clear hK K) | (with_reducible refine hK _ _ ?_ ?_;(· kernel_rfl);clear hK K) | ((with_reducible refine ai ?_ ?_);(· decide)) | (with_reducible refine bU tk0 au ?_ ?_;(· kernel_rfl)) | (with_reducible refine ac (ce) ?_) | (with_reducible refine ac (cc) ?_) | (with_reducible refine ac (ca) ?_) | (with_reducible refine ac (cb) ?_) | (with_reducible refine bg (cE _ _ ?_) ?_;(· (try simp only [List.length_append,List.length_cons,List.length_nil]);omega)) | (with_reducible refine bg (bN _) ?_))
 ·have hb : (x == []) = false:=by simpa using hn
  refine aC [] Tryz.func90 rfl Tryz.ntmps90 (Nat.le_of_ble_eq_true rfl) (Nat.le_of_ble_eq_true rfl) fun w0 G0 B0 Pr hB0=>?_
  simp only [aJ,aB,List.cons_append,List.nil_append]
  repeat' (first | (with_reducible refine hY _ ?_;clear hY Y) | ((with_reducible first | refine ar rfl (ay fun K' hK'=>aa ?_) | refine hK' _ (ab fun Y hY=>aa ?_) | refine ab fun Y hY=>aa ?_ | refine ae tk0 au (ab fun Y hY=>aa ?_) | refine aa ?_ | refine aq ?_ | refine cX rfl (dx fun K' hK'=>aa ?_) | refine hK' _ _ (ab fun Y hY=>aa ?_));(try clear hK' K');(try dsimp only [aop]);try simp only [go_sem,seval,au,Tryz.results90,one,len,g0,g1,g2,s4,ne,re,s12,nc,rc,g33,s15,na,ra,hb]) | (with_reducible first | refine ag ?_ | refine aj ?_ | refine am ?_ | refine aF fun K hK=>?_ | refine ax ?_ | refine av ?_ | refine aZ ?_ | refine bh ?_ | refine ap ?_ | refine aA ?_ | refine bV ?_ | refine eS fun K hK=>?_) | (with_reducible refine hK _ ?_;clear hK K) | (with_reducible refine hK _ _ ?_ ?_;(· kernel_rfl);clear hK K) | ((with_reducible refine ai ?_ ?_);(· decide)) | (with_reducible refine bU tk0 au ?_ ?_;(· kernel_rfl)) | (with_reducible refine ac (ce) ?_) | (with_reducible refine ac (cc) ?_) | (with_reducible refine ac (ca) ?_) | (with_reducible refine ac (cb) ?_) | (with_reducible refine bg (cE _ _ ?_) ?_;(· (try simp only [List.length_append,List.length_cons,List.length_nil]);omega)) | (with_reducible refine bg (bN _) ?_))
set_option maxRecDepth 100000 in
set_option maxHeartbeats 8000000 in
theorem C0 (x f y : Wd) (e v : PE) (c : PC) (a : PA) (rs gs : List PE) (fs : List Wd) (b l : List PS') (he : TxE e) (hx : x.length≤1000000000000) (hf : f.length≤1000000000000) (hc : TxC c) : AFn Tryz.prog 90 [.agg (psA (.mk 8 x f y e v c a rs gs fs b l))] [] (bs (aX (tkS (.mk 8 x f y e v c a rs gs fs b l)))) []:=by
 rw [FI]
 obtain ⟨one,pure,len,g0,g1,g2,g3,s4,s8,s12,s15,g30,g31,g32,g33,g34⟩:=gL 8 x f y e v c a rs gs fs b l
 obtain ⟨le,ce⟩:=he
 have ne:=(cQ e).nm3
 have re:=(cQ e).rn3
 obtain ⟨lc,cc⟩:=hc
 have nc:=(dv c).nm3
 have rc:=(dv c).rn3
 generalize psA (.mk 8 x f y e v c a rs gs fs b l) = SC at *
 generalize peA e = EC at *
 generalize aX (tkE e) = TE at *
 generalize bR c = CC at *
 generalize aX (tkC c) = TC at *
 by_cases hn : x = []
 ·subst hn
  refine aC [] Tryz.func90 rfl Tryz.ntmps90 (Nat.le_of_ble_eq_true rfl) (Nat.le_of_ble_eq_true rfl) fun w0 G0 B0 Pr hB0=>?_
  simp only [aJ,aB,List.cons_append,List.nil_append]
  repeat' (first | (with_reducible refine hY _ ?_;clear hY Y) | ((with_reducible first | refine ar rfl (ay fun K' hK'=>aa ?_) | refine hK' _ (ab fun Y hY=>aa ?_) | refine ab fun Y hY=>aa ?_ | refine ae tk0 au (ab fun Y hY=>aa ?_) | refine aa ?_ | refine aq ?_ | refine cX rfl (dx fun K' hK'=>aa ?_) | refine hK' _ _ (ab fun Y hY=>aa ?_));(try clear hK' K');(try dsimp only [aop]);try simp only [go_sem,seval,au,Tryz.results90,one,len,g0,g1,g2,s4,ne,re,s12,nc,rc]) | (with_reducible first | refine ag ?_ | refine aj ?_ | refine am ?_ | refine aF fun K hK=>?_ | refine ax ?_ | refine av ?_ | refine aZ ?_ | refine bh ?_ | refine ap ?_ | refine aD ?_ | refine aA ?_ | refine bV ?_ | refine eS fun K hK=>?_) | (with_reducible refine hK _ ?_;clear hK K) | (with_reducible refine hK _ _ ?_ ?_;(· kernel_rfl);clear hK K) | ((with_reducible refine ai ?_ ?_);(· decide)) | (with_reducible refine bU tk0 au ?_ ?_;(· kernel_rfl)) | (with_reducible refine ac (ce) ?_) | (with_reducible refine ac (cc) ?_) | (with_reducible refine bg (cE _ _ ?_) ?_;(· (try simp only [List.length_append,List.length_cons,List.length_nil]);omega)) | (with_reducible refine bg (bN _) ?_))
 ·have hb : (x == []) = false:=by simpa using hn
  refine aC [] Tryz.func90 rfl Tryz.ntmps90 (Nat.le_of_ble_eq_true rfl) (Nat.le_of_ble_eq_true rfl) fun w0 G0 B0 Pr hB0=>?_
  simp only [aJ,aB,List.cons_append,List.nil_append]
  repeat' (first | (with_reducible refine hY _ ?_;clear hY Y) | ((with_reducible first | refine ar rfl (ay fun K' hK'=>aa ?_) | refine hK' _ (ab fun Y hY=>aa ?_) | refine ab fun Y hY=>aa ?_ | refine ae tk0 au (ab fun Y hY=>aa ?_) | refine aa ?_ | refine aq ?_ | refine cX rfl (dx fun K' hK'=>aa ?_) | refine hK' _ _ (ab fun Y hY=>aa ?_));(try clear hK' K');(try dsimp only [aop]);try simp only [go_sem,seval,au,Tryz.results90,one,len,g0,g1,g2,s4,ne,re,s12,nc,rc,hb]) | (with_reducible first | refine ag ?_ | refine aj ?_ | refine am ?_ | refine aF fun K hK=>?_ | refine ax ?_ | refine av ?_ | refine aZ ?_ | refine bh ?_ | refine ap ?_ | refine aA ?_ | refine bV ?_ | refine eS fun K hK=>?_) | (with_reducible refine hK _ ?_;clear hK K) | (with_reducible refine hK _ _ ?_ ?_;(· kernel_rfl);clear hK K) | ((with_reducible refine ai ?_ ?_);(· decide)) | (with_reducible refine bU tk0 au ?_ ?_;(· kernel_rfl)) | (with_reducible refine ac (ce) ?_) | (with_reducible refine ac (cc) ?_) | (with_reducible refine bg (cE _ _ ?_) ?_;(· (try simp only [List.length_append,List.length_cons,List.length_nil]);omega)) | (with_reducible refine bg (bN _) ?_))
set_option maxRecDepth 100000 in
set_option maxHeartbeats 8000000 in
theorem C1 (x f y : Wd) (e v : PE) (c : PC) (a : PA) (rs gs : List PE) (fs : List Wd) (b l : List PS') (he : TxE e) (hx : x.length≤1000000000000) (hf : f.length≤1000000000000) (hy : y.length≤1000000000000) (cr : AFn Tryz.prog 169 [.sl (bY rs) rs.length .none] [] (bs (ig (rs.map tkE))) []) (lr : (ig (rs.map tkE)).length≤1000000000000) (cg : AFn Tryz.prog 169 [.sl (bY gs) gs.length .none] [] (bs (ig (gs.map tkE))) []) (lg : (ig (gs.map tkE)).length≤1000000000000) : AFn Tryz.prog 90 [.agg (psA (.mk 9 x f y e v c a rs gs fs b l))] [] (bs (aX (tkS (.mk 9 x f y e v c a rs gs fs b l)))) []:=by
 rw [FJ]
 obtain ⟨one,pure,len,g0,g1,g2,g3,s4,s8,s12,s15,g30,g31,g32,g33,g34⟩:=gL 9 x f y e v c a rs gs fs b l
 obtain ⟨le,ce⟩:=he
 have ne:=(cQ e).nm3
 have re:=(cQ e).rn3
 generalize psA (.mk 9 x f y e v c a rs gs fs b l) = SC at *
 generalize peA e = EC at *
 generalize aX (tkE e) = TE at *
 generalize ig (rs.map tkE) = RR at *
 generalize ig (gs.map tkE) = RG at *
 generalize bY rs = RC at *
 generalize bY gs = GC at *
 by_cases hn : x = []
 ·subst hn
  rw [Cb]
  refine aC [] Tryz.func90 rfl Tryz.ntmps90 (Nat.le_of_ble_eq_true rfl) (Nat.le_of_ble_eq_true rfl) fun w0 G0 B0 Pr hB0=>?_
  simp only [aJ,aB,List.cons_append,List.nil_append]
  repeat' (first | (with_reducible refine hY _ ?_;clear hY Y) | ((with_reducible first | refine ar rfl (ay fun K' hK'=>aa ?_) | refine hK' _ (ab fun Y hY=>aa ?_) | refine ab fun Y hY=>aa ?_ | refine ae tk0 au (ab fun Y hY=>aa ?_) | refine aa ?_ | refine aq ?_ | refine cX rfl (dx fun K' hK'=>aa ?_) | refine hK' _ _ (ab fun Y hY=>aa ?_));(try clear hK' K');(try dsimp only [aop]);try simp only [go_sem,seval,au,Tryz.results90,one,len,g0,g1,g2,s4,ne,re,g3,g30,g31]) | (with_reducible first | refine ag ?_ | refine aj ?_ | refine am ?_ | refine aF fun K hK=>?_ | refine av ?_ | refine aR ?_ | refine ap ?_ | refine aD ?_ | refine aA ?_ | refine bV ?_ | refine eS fun K hK=>?_) | (with_reducible refine hK _ ?_;clear hK K) | (with_reducible refine hK _ _ ?_ ?_;(· kernel_rfl);clear hK K) | ((with_reducible refine ai ?_ ?_);(· decide)) | (with_reducible refine bU tk0 au ?_ ?_;(· kernel_rfl)) | (with_reducible refine ac (ce) ?_) | (with_reducible refine ac (cr) ?_) | (with_reducible refine ac (cg) ?_) | (with_reducible refine bg (cE _ _ ?_) ?_;(· (try simp only [List.length_append,List.length_cons,List.length_nil]);omega)) | (with_reducible refine bg (bN _) ?_))
 ·have hb : (x == []) = false:=by simpa using hn
  rw [Ca hn]
  refine aC [] Tryz.func90 rfl Tryz.ntmps90 (Nat.le_of_ble_eq_true rfl) (Nat.le_of_ble_eq_true rfl) fun w0 G0 B0 Pr hB0=>?_
  simp only [aJ,aB,List.cons_append,List.nil_append]
  repeat' (first | (with_reducible refine hY _ ?_;clear hY Y) | ((with_reducible first | refine ar rfl (ay fun K' hK'=>aa ?_) | refine hK' _ (ab fun Y hY=>aa ?_) | refine ab fun Y hY=>aa ?_ | refine ae tk0 au (ab fun Y hY=>aa ?_) | refine aa ?_ | refine aq ?_ | refine cX rfl (dx fun K' hK'=>aa ?_) | refine hK' _ _ (ab fun Y hY=>aa ?_));(try clear hK' K');(try dsimp only [aop]);try simp only [go_sem,seval,au,Tryz.results90,one,len,g0,g1,g2,s4,ne,re,g3,g30,g31,hb]) | (with_reducible first | refine ag ?_ | refine aj ?_ | refine am ?_ | refine aF fun K hK=>?_ | refine ax ?_ | refine av ?_ | refine aR ?_ | refine ap ?_ | refine aD ?_ | refine aA ?_ | refine bV ?_ | refine eS fun K hK=>?_) | (with_reducible refine hK _ ?_;clear hK K) | (with_reducible refine hK _ _ ?_ ?_;(· kernel_rfl);clear hK K) | ((with_reducible refine ai ?_ ?_);(· decide)) | (with_reducible refine bU tk0 au ?_ ?_;(· kernel_rfl)) | (with_reducible refine ac (ce) ?_) | (with_reducible refine ac (cr) ?_) | (with_reducible refine ac (cg) ?_) | (with_reducible refine bg (cE _ _ ?_) ?_;(· (try simp only [List.length_append,List.length_cons,List.length_nil]);omega)) | (with_reducible refine bg (bN _) ?_))
end Go.Proofs.YtkjnkkmokojnpaaGreatDoor
namespace Go.Proofs.YtkjnkkmokojnpaaGreatDoor
set_option linter.unusedSimpArgs false
set_option linter.unusedVariables false
open Go.RowKit
theorem qy {e : PE} (h : seE e = true) (hn : nE e≤1000000000) : TxE e:=(oo e h hn).1
theorem sw {e : PE} (h : (!dG e) = true) : TxE e:=by
 have:=tE0 (e:=e) (by simpa using h)
 subst this
 exact CP
theorem jJ {x : Wd} (h : x.isEmpty = true) : x.length≤1000000000000:=by
 cases x with
 | nil=>exact Nat.zero_le _
 | cons a r=>cases h
theorem uP {x : Wd} (h : dQ x = true) : x.length≤1000000000000:=by have:=fE h;omega
theorem E8 {x : Wd} (h : (x.isEmpty || dQ x) = true) : x.length≤1000000000000:=by
 rw [Bool.or_eq_true] at h
 exact h.elim jJ uP
theorem td (l : List PS') : (ly l).length≤tl (eE l) + 4:=by
 have h:=gk (tkB l)
 rw [rI] at h
 have e : tl (tkB l) = tl (eE l) + 4:=by unfold tkB;simp only [eF,tl,List.length_cons,List.length_nil];omega
 omega
theorem C4 (k : Int) (x f y : Wd) (e v : PE) (c : PC) (a : PA) (rs gs : List PE) (fs : List Wd) (b l : List PS') (hs : seS (.mk k x f y e v c a rs gs fs b l) = true) (hf : fs.length≤50)
  (he : nE e≤1000000000) (hv : nE v≤1000000000) (hc : nC c≤1000000000) (ha : nA a≤1000000000) (hr : nEs rs≤1000000000) (hg : nEs gs≤1000000000) (lr : Lg rs) (lg : Lg gs)
  (hb : gW b = true→vK b) (hd : gW l = true→vK l) : AFn Tryz.prog 90 [.agg (psA (.mk k x f y e v c a rs gs fs b l))] [] (bs (aX (tkS (.mk k x f y e v c a rs gs fs b l)))) []:=by
 rw [seS] at hs
 by_cases k0 : k = 0
 ·subst k0
  simp only [if_true,Bool.and_eq_true] at hs
  exact CR x f y e v c a rs gs fs b l (sw hs.2.2.2.1) (jJ hs.1) (jJ hs.2.1)
 rw [if_neg k0] at hs
 by_cases k1 : k = 1
 ·subst k1
  simp only [if_true,Bool.and_eq_true] at hs
  exact CS x f y e v c a rs gs fs b l (qy hs.2.2.2.1 he) (uP hs.1) (jJ hs.2.1)
 rw [if_neg k1] at hs
 by_cases k2 : k = 2
 ·subst k2
  simp only [if_true,Bool.and_eq_true] at hs
  exact CT x f y e v c a rs gs fs b l (qy hs.2.2.2.1 he) (uP hs.1) (uP hs.2.1)
 rw [if_neg k2] at hs
 by_cases k3 : k = 3
 ·subst k3
  simp only [if_true,Bool.and_eq_true] at hs
  exact CU x f y e v c a rs gs fs b l (qy hs.2.2.2.1 he) (jJ hs.1) (uP hs.2.1) (qy hs.2.2.2.2.1 hv)
 rw [if_neg k3] at hs
 by_cases k4 : k = 4
 ·subst k4
  simp only [if_true,Bool.and_eq_true] at hs
  have h1:=mZ fs hs.2.2.2.2.2.2.2.2.2.1.2
  have h2:=kn (fs.map fun x=>[x])
  exact CW x f y e v c a rs gs fs b l (sw hs.2.2.2.1) (uP hs.1) (jJ hs.2.1) (wl fs false (by unfold Lg;omega) (by omega)) (by omega)
 rw [if_neg k4] at hs
 by_cases k5 : k = 5
 ·subst k5
  simp only [if_true,Bool.and_eq_true] at hs
  exact CX x f y e v c a rs gs fs b l (qy hs.2.2.2.1 he) (jJ hs.1) (uP hs.2.1)
 rw [if_neg k5] at hs
 by_cases k6 : k = 6
 ·subst k6
  simp only [if_true,Bool.and_eq_true] at hs
  exact CY x f y e v c a rs gs fs b l (sw hs.2.2.2.1) (jJ hs.1) (jJ hs.2.1) (om c hs.2.2.2.2.2.1 hc).1 (hb hs.2.2.2.2.2.2.2.2.2.2.1) (hd hs.2.2.2.2.2.2.2.2.2.2.2)
 rw [if_neg k6] at hs
 by_cases k7 : k = 7
 ·subst k7
  simp only [if_true,Bool.and_eq_true] at hs
  exact CZ x f y e v c a rs gs fs b l (sw hs.2.2.2.1) (jJ hs.1) (jJ hs.2.1) (om c hs.2.2.2.2.2.1 hc).1 (pT a hs.2.2.2.2.2.2.1 ha) (hb hs.2.2.2.2.2.2.2.2.2.2.1)
 rw [if_neg k7] at hs
 by_cases k8 : k = 8
 ·subst k8
  simp only [if_true,Bool.and_eq_true] at hs
  exact C0 x f y e v c a rs gs fs b l (sw hs.2.2.2.1) (jJ hs.1) (jJ hs.2.1) (om c hs.2.2.2.2.2.1 hc).1
 rw [if_neg k8] at hs
 by_cases k9 : k = 9
 ·subst k9
  simp only [if_true,Bool.and_eq_true] at hs
  have h1:=rG rs hs.2.2.2.2.2.2.2.1
  have h2:=kn (rs.map tkE)
  have h3:=rG gs hs.2.2.2.2.2.2.2.2.1
  have h4:=kn (gs.map tkE)
  exact C1 x f y e v c a rs gs fs b l (sw hs.2.2.2.1) (E8 hs.1) (jJ hs.2.1) (uP hs.2.2.1)
   (vv rs lr (by omega) fun z hz=>(ku rs hs.2.2.2.2.2.2.2.1 hr z hz).1) (by omega) (vv gs lg (by omega) fun z hz=>(ku gs hs.2.2.2.2.2.2.2.2.1 hg z hz).1) (by omega)
 ·rw [if_neg k9] at hs;cases hs
mutual
theorem C3 : ∀ e,OkS e→seS e = true→lZ e = true→nS e≤1000000→TxS e
 | .mk k x f y e v c a rs gs fs b l,ho,hs,hf,hn=>by
  have hl:=AJ (.mk k x f y e v c a rs gs fs b l) hs hf
  have h1:=gk (tkS (.mk k x f y e v c a rs gs fs b l))
  obtain ⟨_,_,_,_,_,_,_,_,⟨l1,_⟩,⟨l2,_⟩,_,⟨l3,o3⟩,l4,o4⟩:=ho
  have hf2:=hf
  rw [lZ] at hf2
  simp only [Bool.and_eq_true,decide_eq_true_eq] at hf2
  have hn2:=hn
  rw [nS] at hn2
  exact ⟨by omega,C4 k x f y e v c a rs gs fs b l hs hf2.1 (by omega) (by omega) (by omega) (by omega) (by omega) (by omega) l1 l2
   (fun h=>qp b l3 (by have:=td b;have:=jN b h hf2.2.1;omega) (mn b o3 h hf2.2.1 (by omega)))
   (fun h=>qp l l4 (by have:=td l;have:=jN l h hf2.2.2;omega) (mn l o4 h hf2.2.2 (by omega)))⟩
theorem mn : ∀ l,jB l→gW l = true→gT l = true→nSs l≤1000000→∀ a ∈ l,TxS a
 | [],_,_,_,_=>fun e he=>absurd he List.not_mem_nil
 | e :: r,ho,hs,hf,hn=>fun a ha=>by
  rw [gW,Bool.and_eq_true] at hs
  rw [gT,Bool.and_eq_true] at hf
  rw [nSs] at hn
  exact (List.mem_cons.1 ha).elim (fun q=>q ▸ C3 e ho.1 hs.1 hf.1 (by omega)) (mn r ho.2 hs.2 hf.2 (by omega) a)
end
theorem yR (l : List PS') (hl : Lg l) (ho : jB l) (hs : gW l = true) (hf : gT l = true) (hn : nSs l≤1000000) : vK l :=
 qp l hl (by have:=td l;have:=jN l hs hf;omega) (mn l ho hs hf hn)
abbrev kz (ps : List PP) : Prop:=AFn Tryz.prog 13 [.agg [gv ps]] [] (.tup [bs (fK ps).1,inA ((fK ps).2 : Int)]) []
theorem yq {ps : List PP} (h : ¬ eO ps = 0) : fK ps = ([],eO ps):=by unfold fK;rw [if_neg h]
theorem wt {ps : List PP} (h : eO ps = 0) (h2 : ¬ (aX (dX ps)).length≤65536) : fK ps = ([],2):=by unfold fK;rw [if_pos h,if_neg h2]
theorem Av {ps : List PP} (h : eO ps = 0) (h2 : (aX (dX ps)).length≤65536) : fK ps = (aX (dX ps),0):=by unfold fK;rw [if_pos h,if_pos h2]
theorem Au {ps : List PP} (h : eO ps = 0) : ∀ x ∈ ps,fC x = true:=by
 unfold eO at h
 split at h
 ·cases h
 ·split at h
  ·rename_i h2;exact fun x hx=>List.all_eq_true.1 h2 x hx
  ·cases h
theorem C5 (l : List PP) (k : Nat) : tl (dX (l.take k))≤tl (dX l):=by
 have h : dX l = dX (l.take k) ++ dX (l.drop k):=by
  unfold dX
  rw [← List.flatMap_append,List.take_append_drop]
 rw [h,eF];omega
def bz : Nat→List Nat
 | 0=>[0]
 | 1=>[1]
 | 2=>[1,4]
 | 3=>[4]
 | 4=>[1]
 | 5=>[1,5]
 | 6=>[1,5,6]
 | 7=>[1,5,6]
 | 8=>[1,5,6]
 | 9=>[1,5,6,7]
 | 10=>[1,5,6,7]
 | 11=>[1,5,6,7]
 | 12=>[5]
 | 13=>[]
 | 14=>[5]
 | _=>[]
set_option maxRecDepth 100000 in
set_option maxHeartbeats 16000000 in
theorem wq (ps : List PP) (hps : mt ps) (hlt : ∀ x ∈ ps,LtT x 600) (hn50 : ps.length≤50) (hck : AFn Tryz.prog 19 [.agg [gv ps]] [] (inA (eO ps : Int)) []) : kz ps:=by
 obtain ⟨hpl,hpo⟩:=hps
 unfold Lg at hpl
 have hfl:=nU ps
 unfold kz
 by_cases hE : eO ps = 0
 ·have hok:=Au hE
  have htl:=ud ps fun x hx=>⟨hok x hx,hlt x hx⟩
  obtain ⟨R,hR⟩ : ∃ R,R = fK ps:=⟨_,rfl⟩
  have hR1 : ¬ (aX (dX ps)).length≤65536→R = ([],2):=fun h=>hR.trans (wt hE h)
  have hR2 : (aX (dX ps)).length≤65536→R = (aX (dX ps),0):=fun h=>hR.trans (Av hE h)
  rw [← hR]
  rw [hE] at hck
  clear hR hE
  refine aC [] Tryz.func13 rfl Tryz.ntmps13 (Nat.le_of_ble_eq_true rfl) (Nat.le_of_ble_eq_true rfl) fun w0 G0 B0 Pr hB0=>?_
  simp only [aJ,aB,List.cons_append,List.nil_append]
  repeat' (first | (with_reducible refine hY _ ?_;clear hY Y) | ((with_reducible first | refine ar rfl (ay fun K' hK'=>aa ?_) | refine hK' _ (ab fun Y hY=>aa ?_));(try clear hK' K');(try dsimp only [aop]);try simp only [go_sem,seval,-Int.reduceNatCast,-Int.reduceNatCast',bz,Tryz.results13]) | (with_reducible first | refine ag ?_ | refine aj ?_ | refine aF fun K hK=>?_) | ((with_reducible refine cD 1 ?_ ?_);(· rfl)) | ((with_reducible refine bu 1 tk0 bz ?_ (ab fun Y hY=>aa ?_));(· rfl);(try dsimp only [aop]);try simp only [go_sem,seval,-Int.reduceNatCast,-Int.reduceNatCast',bz,Tryz.results13]) | (with_reducible refine hK _ ?_;clear hK K))
  refine dH 10001 ⟨by decide,by decide⟩ rfl rfl (by simp only [go_sem,seval,-Int.reduceNatCast,-Int.reduceNatCast'];exact rfl) (by simp only [go_sem,seval,-Int.reduceNatCast,-Int.reduceNatCast'];exact rfl) ?_
  repeat' (first | (with_reducible refine hY _ ?_;clear hY Y) | ((with_reducible first | refine ar rfl (ay fun K' hK'=>aa ?_) | refine hK' _ (ab fun Y hY=>aa ?_) | refine ab fun Y hY=>aa ?_ | refine ae tk0 bz (ab fun Y hY=>aa ?_) | refine aa ?_);(try clear hK' K');(try dsimp only [aop]);try simp only [go_sem,seval,-Int.reduceNatCast,-Int.reduceNatCast',bz,Tryz.results13]) | (with_reducible first | refine ag ?_ | refine aj ?_ | refine am ?_ | refine aF fun K hK=>?_ | refine ap ?_ | refine aD ?_ | refine bW ?_) | (with_reducible refine hK _ ?_;clear hK K) | ((with_reducible refine ai ?_ ?_);(· decide)) | ((with_reducible refine fu (fun hc=>?_) (fun hc=>?_)) <;> (try simp only [decide_eq_true_eq,decide_eq_false_iff_not,Bool.not_true,Bool.not_false,Bool.not_eq_true',Bool.not_eq_false'] at hc) <;> (try (exfalso;omega))) | (with_reducible refine ac (hck) ?_))
  clear hck
  refine b9 (α:=Nat) (fun k=>[(1,.rf [gv ps] 0),(5,bs (aX (dX (ps.take k)))),(6,inA (k : Int))])
   (fun k=>k≤ps.length) (fun k=>ps.length - k) 0 [1,5,6] ?_ (Nat.zero_le _) ?_
  ·simp only [go_sem,seval,-Int.reduceNatCast,-Int.reduceNatCast'] <;> rfl
  intro k hk ih
  by_cases hlt2 : k < ps.length
  ·have hlt' : ((k : Int) < (ps.length : Int)) = True:=eq_true (by omega)
   have hkw:=eB (n:=k) (by omega)
   have hg0:=mP hlt2
   have hox:=hpo ps[k] (List.getElem_mem hlt2)
   have hsx:=hok ps[k] (List.getElem_mem hlt2)
   have hlx:=hlt ps[k] (List.getElem_mem hlt2)
   have hst:=yD hlt2
   have hle:=C5 ps k
   have hj1:=gk (dX (ps.take k))
   have ihk:=ih (k + 1) (by omega) (by omega)
   rw [hst] at ihk
   have hk0 : k = 0→aX (dX (ps.take k)) = []:=fun e=>by rw [e];rfl
   clear hst ih
   generalize ps[k] = x at *
   rw [F1] at ihk
   obtain ⟨_,⟨lp,_⟩,⟨lgh,_⟩,hpre,hpost,hbl,hbo⟩:=hox
   obtain ⟨b1,b2,b3,b4,b5,b6⟩:=hlx
   unfold fC at hsx
   simp only [Bool.and_eq_true] at hsx
   obtain ⟨s1,s2,s3,s4,s5,s6⟩:=hsx
   have hnm:=fE s1
   have w1:=mZ x.params s2
   have w2:=mZ x.ghosts s3
   have w3:=kn (x.params.map fun x=>[x])
   have w4:=kn (x.ghosts.map fun x=>[x])
   have c1:=wl x.params false lp (by omega)
   have c2:=wl x.ghosts false lgh (by omega)
   obtain ⟨l3,c3⟩:=pT x.pre s4 (by omega)
   obtain ⟨l4,c4⟩:=pT x.post s5 (by omega)
   obtain ⟨l5,c5⟩:=yR x.body hbl hbo s6 b6 (by omega)
   have nP:=(dV x.pre).nm3
   have nQ:=(dV x.post).nm3
   have rP:=(dV x.pre).rn3
   have rQ:=(dV x.post).rn3
   obtain ⟨hx1,hxp,hxl,f0,f1,f2,f3,f18,f33⟩:=sI x
   simp only [ofB] at c1 c2
   generalize ppA x = XC at *
   generalize paA x.pre = PA at *
   generalize paA x.post = QA at *
   generalize dU x.body = BA at *
   generalize x.body.length = bl at *
   generalize ig (x.params.map fun x=>[x]) = T1 at *
   generalize ig (x.ghosts.map fun x=>[x]) = T2 at *
   generalize aX (tkA x.pre) = T3 at *
   generalize aX (tkA x.post) = T4 at *
   generalize ly x.body = T5 at *
   generalize x.params.map bs = MA at *
   generalize x.params.length = ml at *
   generalize x.ghosts.map bs = GA at *
   generalize x.ghosts.length = gl at *
   generalize x.name = xn at *
   generalize aX (dX (ps.take k)) = T at *
   clear hpo hok hlt hR1 hR2
   by_cases hk1 : k = 0
   ·have hT:=hk0 hk1
    subst hT
    have hk0' : ((0 : Int) < (k : Int)) = False:=eq_false (by omega)
    rw [if_pos hk1] at ihk
    repeat' (first | (with_reducible refine hY _ ?_;clear hY Y) | ((with_reducible first | refine ar rfl (ay fun K' hK'=>aa ?_) | refine hK' _ (ab fun Y hY=>aa ?_) | refine ab fun Y hY=>aa ?_ | refine ae tk0 bz (ab fun Y hY=>aa ?_) | refine aa ?_ | refine cX rfl (dx fun K' hK'=>aa ?_) | refine hK' _ _ (ab fun Y hY=>aa ?_));(try clear hK' K');(try dsimp only [aop]);try simp only [go_sem,seval,-Int.reduceNatCast,-Int.reduceNatCast',bz,Tryz.results13,hlt',hg0,hfl,hkw,hx1,hxl,f0,f1,f2,f3,f18,f33,nP,nQ,rP,rQ,hk0']) | (with_reducible first | refine ag ?_ | refine aj ?_ | refine am ?_ | refine aF fun K hK=>?_ | refine ax ?_ | refine av ?_ | refine aR ?_ | refine ap ?_ | refine aD ?_ | refine bV ?_ | refine eS fun K hK=>?_) | (with_reducible refine hK _ ?_;clear hK K) | (with_reducible refine hK _ _ ?_ ?_;(· kernel_rfl);clear hK K) | ((with_reducible refine ai ?_ ?_);(· decide)) | (with_reducible refine bU tk0 bz ?_ ?_;(· kernel_rfl)) | (with_reducible refine br ?_ ?_;(· (try and_intros) <;> first | omega | assumption | (simp only [List.length_append,List.length_map,List.length_cons,List.length_nil] <;> omega))) | (with_reducible refine ac (c1) ?_) | (with_reducible refine ac (c2) ?_) | (with_reducible refine ac (c3) ?_) | (with_reducible refine ac (c4) ?_) | (with_reducible refine ac (c5) ?_) | (with_reducible refine bg (cE _ _ ?_) ?_;(· (try simp only [List.length_append,List.length_cons,List.length_nil]);omega)))
    refine bi [1,5,6] (by simp only [go_sem,seval,-Int.reduceNatCast,-Int.reduceNatCast'];exact rfl) ?_
    exact dd ihk (by simp)
   ·have hk0' : ((0 : Int) < (k : Int)) = True:=eq_true (by omega)
    rw [if_neg hk1] at ihk
    repeat' (first | (with_reducible refine hY _ ?_;clear hY Y) | ((with_reducible first | refine ar rfl (ay fun K' hK'=>aa ?_) | refine hK' _ (ab fun Y hY=>aa ?_) | refine ab fun Y hY=>aa ?_ | refine ae tk0 bz (ab fun Y hY=>aa ?_) | refine aa ?_ | refine cX rfl (dx fun K' hK'=>aa ?_) | refine hK' _ _ (ab fun Y hY=>aa ?_));(try clear hK' K');(try dsimp only [aop]);try simp only [go_sem,seval,-Int.reduceNatCast,-Int.reduceNatCast',bz,Tryz.results13,hlt',hg0,hfl,hkw,hx1,hxl,f0,f1,f2,f3,f18,f33,nP,nQ,rP,rQ,hk0']) | (with_reducible first | refine ag ?_ | refine aj ?_ | refine am ?_ | refine aF fun K hK=>?_ | refine ax ?_ | refine aR ?_ | refine ap ?_ | refine aD ?_ | refine bV ?_ | refine eS fun K hK=>?_) | (with_reducible refine hK _ ?_;clear hK K) | (with_reducible refine hK _ _ ?_ ?_;(· kernel_rfl);clear hK K) | ((with_reducible refine ai ?_ ?_);(· decide)) | (with_reducible refine bU tk0 bz ?_ ?_;(· kernel_rfl)) | (with_reducible refine br ?_ ?_;(· (try and_intros) <;> first | omega | assumption | (simp only [List.length_append,List.length_map,List.length_cons,List.length_nil] <;> omega))) | (with_reducible refine ac (c1) ?_) | (with_reducible refine ac (c2) ?_) | (with_reducible refine ac (c3) ?_) | (with_reducible refine ac (c4) ?_) | (with_reducible refine ac (c5) ?_) | (with_reducible refine bg (cE _ _ ?_) ?_;(· (try simp only [List.length_append,List.length_cons,List.length_nil]);omega)))
    refine bi [1,5,6] (by simp only [go_sem,seval,-Int.reduceNatCast,-Int.reduceNatCast'];exact rfl) ?_
    exact dd ihk (by simp)
  ·have hlt' : ((k : Int) < (ps.length : Int)) = False:=eq_false (by omega)
   obtain rfl : k = ps.length:=by omega
   rw [List.take_length]
   clear ih hpo hok hlt
   generalize aX (dX ps) = T at *
   by_cases hT : T.length≤65536
   ·have hT' : ((65536 : Int) < (T.length : Int)) = False:=eq_false (by omega)
    rw [hR2 hT]
    clear hR1 hR2
    repeat' (first | (with_reducible refine hY _ ?_;clear hY Y) | ((with_reducible first | refine ar rfl (ay fun K' hK'=>aa ?_) | refine hK' _ (ab fun Y hY=>aa ?_) | refine ab fun Y hY=>aa ?_ | refine ae tk0 bz (ab fun Y hY=>aa ?_) | refine aa ?_ | refine aq ?_);(try clear hK' K');(try dsimp only [aop]);try simp only [go_sem,seval,-Int.reduceNatCast,-Int.reduceNatCast',bz,Tryz.results13,hlt',hT']) | (with_reducible first | refine ag ?_ | refine aj ?_ | refine am ?_ | refine aF fun K hK=>?_ | refine av ?_ | refine cf ?_ | refine bI ?_ | refine aD ?_ | refine aA ?_ | refine bH ?_) | (with_reducible refine hK _ ?_;clear hK K) | ((with_reducible refine ai ?_ ?_);(· decide)))
    all_goals (rfl)
   ·have hT' : ((65536 : Int) < (T.length : Int)) = True:=eq_true (by omega)
    rw [hR1 hT]
    clear hR1 hR2
    repeat' (first | (with_reducible refine hY _ ?_;clear hY Y) | ((with_reducible first | refine ar rfl (ay fun K' hK'=>aa ?_) | refine hK' _ (ab fun Y hY=>aa ?_) | refine ab fun Y hY=>aa ?_ | refine ae tk0 bz (ab fun Y hY=>aa ?_) | refine aa ?_ | refine aq ?_);(try clear hK' K');(try dsimp only [aop]);try simp only [go_sem,seval,-Int.reduceNatCast,-Int.reduceNatCast',bz,Tryz.results13,hlt',hT']) | (with_reducible first | refine ag ?_ | refine aj ?_ | refine am ?_ | refine aF fun K hK=>?_ | refine ax ?_ | refine av ?_ | refine cf ?_ | refine aZ ?_ | refine bI ?_ | refine aA ?_ | refine bH ?_) | (with_reducible refine hK _ ?_;clear hK K) | ((with_reducible refine ai ?_ ?_);(· decide)))
    all_goals (rfl)
 ·rw [yq hE]
  have hE' : ((eO ps : Int) = 0) = False:=eq_false (by omega)
  generalize eO ps = E at *
  refine aC [] Tryz.func13 rfl Tryz.ntmps13 (Nat.le_of_ble_eq_true rfl) (Nat.le_of_ble_eq_true rfl) fun w0 G0 B0 Pr hB0=>?_
  simp only [aJ,aB,List.cons_append,List.nil_append]
  repeat' (first | (with_reducible refine hY _ ?_;clear hY Y) | ((with_reducible first | refine ar rfl (ay fun K' hK'=>aa ?_) | refine hK' _ (ab fun Y hY=>aa ?_) | refine ab fun Y hY=>aa ?_ | refine ae tk0 bz (ab fun Y hY=>aa ?_) | refine aa ?_ | refine aq ?_);(try clear hK' K');(try dsimp only [aop]);try simp only [go_sem,seval,-Int.reduceNatCast,-Int.reduceNatCast',bz,Tryz.results13,hE']) | (with_reducible first | refine ag ?_ | refine aj ?_ | refine am ?_ | refine aF fun K hK=>?_ | refine ax ?_ | refine aZ ?_ | refine aA ?_) | (with_reducible refine hK _ ?_;clear hK K) | ((with_reducible refine ai ?_ ?_);(· decide)) | (with_reducible refine ac (hck) ?_))
end Go.Proofs.YtkjnkkmokojnpaaGreatDoor

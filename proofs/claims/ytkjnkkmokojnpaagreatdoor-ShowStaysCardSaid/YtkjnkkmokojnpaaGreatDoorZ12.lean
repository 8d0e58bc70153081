/- show's writer in K: statements (printed by gen_swe.py). show's writer in K: statements joined; show.Show. -/
import Derived.Test.YtkjnkkmokojnpaaGreatDoorZ11
import Derived.Test.YtkjnkkmokojnpaaGreatDoorZ4
import Derived.Test.YtkjnkkmokojnpaaGreatDoorZ5
namespace Go.Proofs.YtkjnkkmokojnpaaGreatDoor
set_option linter.unusedSimpArgs false
set_option linter.unusedVariables false
open Go.RowKit
def az : Nat→List Nat
|0=>[0,1]
|1=>[0,3]
|2=>[0,3]
|3=>[0,3]
|4=>[0,3,13]
|5=>[0]
|6=>[0,3,13]
|7=>[0,3]
|8=>[0,3,13]
|9=>[0,3,13]
|10=>[0,3,13]
|11=>[0,3]
|12=>[0,3]
|13=>[0,3]
|14=>[0,3]
|15=>[0,3]
|16=>[0,3]
|17=>[0,3,13]
|18=>[0,3]
|19=>[0,3]
|20=>[0]
|21=>[0,3,13]
|22=>[0,3]
|23=>[0,3]
|24=>[0,3]
|25=>[0,3]
|26=>[0,3]
|27=>[0,3,13]
|28=>[0,3]
|29=>[0,3]
|30=>[0,3]
|31=>[0,3]
|32=>[0,3]
|33=>[0,3,13]
|34=>[0,3]
|35=>[0,3]
|36=>[0,3,13]
|37=>[0,3]
|38=>[0,3]
|39=>[0,3]
|40=>[0,3]
|41=>[0]
|42=>[0]
|_=>[]
set_option maxRecDepth 100000 in
set_option maxHeartbeats 8000000 in
theorem Du (x f y : Wd) (e v : PE) (c : PC) (a : PA) (rs gs : List PE) (fs : List Wd) (b l : List PS') : WrS (.mk 0 [] f y e v c a rs gs fs b l):=fun M m hM hb=>by
 have hW : tkS (.mk 0 [] f y e v c a rs gs fs b l) = [[115,107,105,112],[59]]:=by rw [tkS];simp [tkB,fM]
 rw [hW] at hb ⊢
 clear hW
 simp only [List.length_append,List.length_cons,List.length_nil] at hb
 obtain ⟨one,pu,len,g0,g1,g2,g3,s4,s8,s12,s15,g30,g31,g32,g33,g34⟩:=gL 0 [] f y e v c a rs gs fs b l
 generalize psA (.mk 0 [] f y e v c a rs gs fs b l) = SC at *
 refine aC [] Tryz.func95 rfl Tryz.ntmps95 (Nat.le_of_ble_eq_true rfl) (Nat.le_of_ble_eq_true rfl) fun w0 G0 B0 Pr hB0=>?_
 simp only [aJ,aB,List.cons_append,List.nil_append]
 repeat' (first|(with_reducible refine hY _ ?_;clear hY Y)|((with_reducible first|refine ar rfl (ay fun K' hK'=>aa ?_)|refine hK' _ (ab fun Y hY=>aa ?_));(try clear hK' K');(try dsimp only [aop]);try simp only [go_sem,seval,az,Tryz.results95,hM,one,len])|(with_reducible first|refine ag ?_|refine aj ?_|refine aF fun K hK=>?_)|((with_reducible refine cD 1 ?_ ?_);(· rfl))|((with_reducible refine bu 1 tk0 az ?_ (ab fun Y hY=>aa ?_));(· rfl);(try dsimp only [aop]);try simp only [go_sem,seval,az,Tryz.results95,hM,one,len])|(with_reducible refine hK _ ?_;clear hK K))
 refine dH 10003 ⟨by decide,by decide⟩ rfl rfl pu (by simp only [go_sem,seval];exact rfl) ?_
 repeat' (first|(with_reducible refine hY _ ?_;clear hY Y)|((with_reducible first|refine ar rfl (ay fun K' hK'=>aa ?_)|refine hK' _ (ab fun Y hY=>aa ?_)|refine ab fun Y hY=>aa ?_|refine ae tk0 az (ab fun Y hY=>aa ?_)|refine aa ?_|refine dw ?_);(try clear hK' K');(try dsimp only [aop]);try simp only [go_sem,seval,az,Tryz.results95,hM,one,len,g0,g1])|(with_reducible first|refine ag ?_|refine aj ?_|refine am ?_|refine aF fun K hK=>?_|refine ax ?_|refine av ?_|refine aR ?_|refine ap ?_|refine aD ?_)|(with_reducible refine hK _ ?_;clear hK K)|((with_reducible refine ai ?_ ?_);(· decide))|(with_reducible refine ac (fq _ _ ?_ _ _ ?_ ?_) ?_;(· simp);(· ((try simp only [List.length_append,List.length_map,List.length_cons,List.length_nil,List.take_length]);omega));(· ((try simp only [List.length_append,List.length_map,List.length_cons,List.length_nil,List.take_length]);omega)))|(with_reducible refine bg (bN _) ?_))
 all_goals (simp <;> omega)
set_option maxRecDepth 100000 in
set_option maxHeartbeats 8000000 in
theorem Dv (x f y : Wd) (e v : PE) (c : PC) (a : PA) (rs gs : List PE) (fs : List Wd) (b l : List PS') (hx : x ≠ []) (he : WrE e) : WrS (.mk 1 x f y e v c a rs gs fs b l):=fun M m hM hb=>by
 have hW : tkS (.mk 1 x f y e v c a rs gs fs b l) = [x,[58,61]]++tkE e++[[59]]:=by rw [tkS];simp [tkB,fM,hx]
 rw [hW] at hb ⊢
 clear hW
 simp only [List.length_append,List.length_cons,List.length_nil] at hb
 obtain ⟨one,pu,len,g0,g1,g2,g3,s4,s8,s12,s15,g30,g31,g32,g33,g34⟩:=gL 1 x f y e v c a rs gs fs b l
 unfold WrE at he
 have ne:=(cQ e).nm3
 have re:=(cQ e).rn3
 have hbx : (x == []) = false:=by simpa using hx
 generalize psA (.mk 1 x f y e v c a rs gs fs b l) = SC at *
 generalize peA e = EC at *
 generalize tkE e = TE at *
 refine aC [] Tryz.func95 rfl Tryz.ntmps95 (Nat.le_of_ble_eq_true rfl) (Nat.le_of_ble_eq_true rfl) fun w0 G0 B0 Pr hB0=>?_
 simp only [aJ,aB,List.cons_append,List.nil_append]
 repeat' (first|(with_reducible refine hY _ ?_;clear hY Y)|((with_reducible first|refine ar rfl (ay fun K' hK'=>aa ?_)|refine hK' _ (ab fun Y hY=>aa ?_));(try clear hK' K');(try dsimp only [aop]);try simp only [go_sem,seval,az,Tryz.results95,hM,one,len])|(with_reducible first|refine ag ?_|refine aj ?_|refine aF fun K hK=>?_)|((with_reducible refine cD 1 ?_ ?_);(· rfl))|((with_reducible refine bu 1 tk0 az ?_ (ab fun Y hY=>aa ?_));(· rfl);(try dsimp only [aop]);try simp only [go_sem,seval,az,Tryz.results95,hM,one,len])|(with_reducible refine hK _ ?_;clear hK K))
 refine dH 10003 ⟨by decide,by decide⟩ rfl rfl pu (by simp only [go_sem,seval];exact rfl) ?_
 repeat' (first|(with_reducible refine hY _ ?_;clear hY Y)|((with_reducible first|refine ar rfl (ay fun K' hK'=>aa ?_)|refine hK' _ (ab fun Y hY=>aa ?_)|refine ab fun Y hY=>aa ?_|refine ae tk0 az (ab fun Y hY=>aa ?_)|refine aa ?_|refine dw ?_);(try clear hK' K');(try dsimp only [aop]);try simp only [go_sem,seval,az,Tryz.results95,hM,one,len,g0,g1,s4,ne,re,hbx])|(with_reducible first|refine ag ?_|refine aj ?_|refine am ?_|refine aF fun K hK=>?_|refine ax ?_|refine av ?_|refine aR ?_|refine ap ?_)|(with_reducible refine hK _ ?_;clear hK K)|((with_reducible refine ai ?_ ?_);(· decide))|(with_reducible refine ac (he _ _ ?_ ?_) ?_;(· ((try simp only [List.length_append,List.length_map,List.length_cons,List.length_nil,List.take_length]);omega));(· ((try simp only [List.length_append,List.length_map,List.length_cons,List.length_nil,List.take_length]);omega)))|(with_reducible refine ac (fq _ _ ?_ _ _ ?_ ?_) ?_;(· simp);(· ((try simp only [List.length_append,List.length_map,List.length_cons,List.length_nil,List.take_length]);omega));(· ((try simp only [List.length_append,List.length_map,List.length_cons,List.length_nil,List.take_length]);omega)))|(with_reducible refine bg (bN _) ?_))
 all_goals (simp <;> omega)
set_option maxRecDepth 100000 in
set_option maxHeartbeats 8000000 in
theorem Dw (x f y : Wd) (e v : PE) (c : PC) (a : PA) (rs gs : List PE) (fs : List Wd) (b l : List PS') (hx : x ≠ []) (he : WrE e) : WrS (.mk 2 x f y e v c a rs gs fs b l):=fun M m hM hb=>by
 have hW : tkS (.mk 2 x f y e v c a rs gs fs b l) = [x,[58,61]]++[[103,101,116]]++tkE e++[[46],f]++[[59]]:=by rw [tkS];simp [tkB,fM,hx]
 rw [hW] at hb ⊢
 clear hW
 simp only [List.length_append,List.length_cons,List.length_nil] at hb
 obtain ⟨one,pu,len,g0,g1,g2,g3,s4,s8,s12,s15,g30,g31,g32,g33,g34⟩:=gL 2 x f y e v c a rs gs fs b l
 unfold WrE at he
 have ne:=(cQ e).nm3
 have re:=(cQ e).rn3
 have hbx : (x == []) = false:=by simpa using hx
 generalize psA (.mk 2 x f y e v c a rs gs fs b l) = SC at *
 generalize peA e = EC at *
 generalize tkE e = TE at *
 refine aC [] Tryz.func95 rfl Tryz.ntmps95 (Nat.le_of_ble_eq_true rfl) (Nat.le_of_ble_eq_true rfl) fun w0 G0 B0 Pr hB0=>?_
 simp only [aJ,aB,List.cons_append,List.nil_append]
 repeat' (first|(with_reducible refine hY _ ?_;clear hY Y)|((with_reducible first|refine ar rfl (ay fun K' hK'=>aa ?_)|refine hK' _ (ab fun Y hY=>aa ?_));(try clear hK' K');(try dsimp only [aop]);try simp only [go_sem,seval,az,Tryz.results95,hM,one,len])|(with_reducible first|refine ag ?_|refine aj ?_|refine aF fun K hK=>?_)|((with_reducible refine cD 1 ?_ ?_);(· rfl))|((with_reducible refine bu 1 tk0 az ?_ (ab fun Y hY=>aa ?_));(· rfl);(try dsimp only [aop]);try simp only [go_sem,seval,az,Tryz.results95,hM,one,len])|(with_reducible refine hK _ ?_;clear hK K))
 refine dH 10003 ⟨by decide,by decide⟩ rfl rfl pu (by simp only [go_sem,seval];exact rfl) ?_
 repeat' (first|(with_reducible refine hY _ ?_;clear hY Y)|((with_reducible first|refine ar rfl (ay fun K' hK'=>aa ?_)|refine hK' _ (ab fun Y hY=>aa ?_)|refine ab fun Y hY=>aa ?_|refine ae tk0 az (ab fun Y hY=>aa ?_)|refine aa ?_|refine dw ?_);(try clear hK' K');(try dsimp only [aop]);try simp only [go_sem,seval,az,Tryz.results95,hM,one,len,g0,g1,s4,ne,re,g2,hbx])|(with_reducible first|refine ag ?_|refine aj ?_|refine am ?_|refine aF fun K hK=>?_|refine ax ?_|refine av ?_|refine aR ?_|refine ap ?_|refine aD ?_)|(with_reducible refine hK _ ?_;clear hK K)|((with_reducible refine ai ?_ ?_);(· decide))|(with_reducible refine ac (he _ _ ?_ ?_) ?_;(· ((try simp only [List.length_append,List.length_map,List.length_cons,List.length_nil,List.take_length]);omega));(· ((try simp only [List.length_append,List.length_map,List.length_cons,List.length_nil,List.take_length]);omega)))|(with_reducible refine ac (fq _ _ ?_ _ _ ?_ ?_) ?_;(· simp);(· ((try simp only [List.length_append,List.length_map,List.length_cons,List.length_nil,List.take_length]);omega));(· ((try simp only [List.length_append,List.length_map,List.length_cons,List.length_nil,List.take_length]);omega)))|(with_reducible refine bg (bN _) ?_))
 all_goals (simp <;> omega)
set_option maxRecDepth 100000 in
set_option maxHeartbeats 8000000 in
theorem Dx (x f y : Wd) (e v : PE) (c : PC) (a : PA) (rs gs : List PE) (fs : List Wd) (b l : List PS') (he : WrE e) (hv : WrE v) : WrS (.mk 3 [] f y e v c a rs gs fs b l):=fun M m hM hb=>by
 have hW : tkS (.mk 3 [] f y e v c a rs gs fs b l) = [[112,117,116]]++tkE e++[[46],f]++[[58,61]]++tkE v++[[59]]:=by rw [tkS];simp [tkB,fM]
 rw [hW] at hb ⊢
 clear hW
 simp only [List.length_append,List.length_cons,List.length_nil] at hb
 obtain ⟨one,pu,len,g0,g1,g2,g3,s4,s8,s12,s15,g30,g31,g32,g33,g34⟩:=gL 3 [] f y e v c a rs gs fs b l
 unfold WrE at he
 have ne:=(cQ e).nm3
 have re:=(cQ e).rn3
 unfold WrE at hv
 have nv:=(cQ v).nm3
 have rv:=(cQ v).rn3
 generalize psA (.mk 3 [] f y e v c a rs gs fs b l) = SC at *
 generalize peA e = EC at *
 generalize tkE e = TE at *
 generalize peA v = VC at *
 generalize tkE v = TV at *
 refine aC [] Tryz.func95 rfl Tryz.ntmps95 (Nat.le_of_ble_eq_true rfl) (Nat.le_of_ble_eq_true rfl) fun w0 G0 B0 Pr hB0=>?_
 simp only [aJ,aB,List.cons_append,List.nil_append]
 repeat' (first|(with_reducible refine hY _ ?_;clear hY Y)|((with_reducible first|refine ar rfl (ay fun K' hK'=>aa ?_)|refine hK' _ (ab fun Y hY=>aa ?_));(try clear hK' K');(try dsimp only [aop]);try simp only [go_sem,seval,az,Tryz.results95,hM,one,len])|(with_reducible first|refine ag ?_|refine aj ?_|refine aF fun K hK=>?_)|((with_reducible refine cD 1 ?_ ?_);(· rfl))|((with_reducible refine bu 1 tk0 az ?_ (ab fun Y hY=>aa ?_));(· rfl);(try dsimp only [aop]);try simp only [go_sem,seval,az,Tryz.results95,hM,one,len])|(with_reducible refine hK _ ?_;clear hK K))
 refine dH 10003 ⟨by decide,by decide⟩ rfl rfl pu (by simp only [go_sem,seval];exact rfl) ?_
 repeat' (first|(with_reducible refine hY _ ?_;clear hY Y)|((with_reducible first|refine ar rfl (ay fun K' hK'=>aa ?_)|refine hK' _ (ab fun Y hY=>aa ?_)|refine ab fun Y hY=>aa ?_|refine ae tk0 az (ab fun Y hY=>aa ?_)|refine aa ?_|refine dw ?_);(try clear hK' K');(try dsimp only [aop]);try simp only [go_sem,seval,az,Tryz.results95,hM,one,len,g0,g1,s4,ne,re,s8,nv,rv,g2])|(with_reducible first|refine ag ?_|refine aj ?_|refine am ?_|refine aF fun K hK=>?_|refine ax ?_|refine av ?_|refine aR ?_|refine ap ?_|refine aD ?_)|(with_reducible refine hK _ ?_;clear hK K)|((with_reducible refine ai ?_ ?_);(· decide))|(with_reducible refine ac (he _ _ ?_ ?_) ?_;(· ((try simp only [List.length_append,List.length_map,List.length_cons,List.length_nil,List.take_length]);omega));(· ((try simp only [List.length_append,List.length_map,List.length_cons,List.length_nil,List.take_length]);omega)))|(with_reducible refine ac (hv _ _ ?_ ?_) ?_;(· ((try simp only [List.length_append,List.length_map,List.length_cons,List.length_nil,List.take_length]);omega));(· ((try simp only [List.length_append,List.length_map,List.length_cons,List.length_nil,List.take_length]);omega)))|(with_reducible refine ac (fq _ _ ?_ _ _ ?_ ?_) ?_;(· simp);(· ((try simp only [List.length_append,List.length_map,List.length_cons,List.length_nil,List.take_length]);omega));(· ((try simp only [List.length_append,List.length_map,List.length_cons,List.length_nil,List.take_length]);omega)))|(with_reducible refine bg (bN _) ?_))
 all_goals (simp <;> omega)
set_option maxRecDepth 100000 in
set_option maxHeartbeats 8000000 in
theorem Dy (x f y : Wd) (e v : PE) (c : PC) (a : PA) (rs gs : List PE) (fs : List Wd) (b l : List PS') (hx : x ≠ []) (hf : Wr 35 [.sl (fs.map bs) fs.length .none,zX] (ew (fs.map fun x=>[x]))) : WrS (.mk 4 x f y e v c a rs gs fs b l):=fun M m hM hb=>by
 have hW : tkS (.mk 4 x f y e v c a rs gs fs b l) = [x,[58,61]]++[[110,101,119],[40]]++ew (fs.map fun x=>[x])++[[41]]++[[59]]:=by rw [tkS];simp [tkB,fM,hx]
 rw [hW] at hb ⊢
 clear hW
 simp only [List.length_append,List.length_cons,List.length_nil] at hb
 obtain ⟨one,pu,len,g0,g1,g2,g3,s4,s8,s12,s15,g30,g31,g32,g33,g34⟩:=gL 4 x f y e v c a rs gs fs b l
 have hbx : (x == []) = false:=by simpa using hx
 generalize psA (.mk 4 x f y e v c a rs gs fs b l) = SC at *
 generalize ew (fs.map fun x=>[x]) = TF at *
 generalize fs.map bs = FC at *
 refine aC [] Tryz.func95 rfl Tryz.ntmps95 (Nat.le_of_ble_eq_true rfl) (Nat.le_of_ble_eq_true rfl) fun w0 G0 B0 Pr hB0=>?_
 simp only [aJ,aB,List.cons_append,List.nil_append]
 repeat' (first|(with_reducible refine hY _ ?_;clear hY Y)|((with_reducible first|refine ar rfl (ay fun K' hK'=>aa ?_)|refine hK' _ (ab fun Y hY=>aa ?_));(try clear hK' K');(try dsimp only [aop]);try simp only [go_sem,seval,az,Tryz.results95,hM,one,len])|(with_reducible first|refine ag ?_|refine aj ?_|refine aF fun K hK=>?_)|((with_reducible refine cD 1 ?_ ?_);(· rfl))|((with_reducible refine bu 1 tk0 az ?_ (ab fun Y hY=>aa ?_));(· rfl);(try dsimp only [aop]);try simp only [go_sem,seval,az,Tryz.results95,hM,one,len])|(with_reducible refine hK _ ?_;clear hK K))
 refine dH 10003 ⟨by decide,by decide⟩ rfl rfl pu (by simp only [go_sem,seval];exact rfl) ?_
 repeat' (first|(with_reducible refine hY _ ?_;clear hY Y)|((with_reducible first|refine ar rfl (ay fun K' hK'=>aa ?_)|refine hK' _ (ab fun Y hY=>aa ?_)|refine ab fun Y hY=>aa ?_|refine ae tk0 az (ab fun Y hY=>aa ?_)|refine aa ?_|refine dw ?_);(try clear hK' K');(try dsimp only [aop]);try simp only [go_sem,seval,az,Tryz.results95,hM,one,len,g0,g1,g32,hbx])|(with_reducible first|refine ag ?_|refine aj ?_|refine am ?_|refine aF fun K hK=>?_|refine ax ?_|refine av ?_|refine aR ?_|refine ap ?_)|(with_reducible refine hK _ ?_;clear hK K)|((with_reducible refine ai ?_ ?_);(· decide))|(with_reducible refine ac (hf _ _ ?_ ?_) ?_;(· ((try simp only [List.length_append,List.length_map,List.length_cons,List.length_nil,List.take_length]);omega));(· ((try simp only [List.length_append,List.length_map,List.length_cons,List.length_nil,List.take_length]);omega)))|(with_reducible refine ac (fq _ _ ?_ _ _ ?_ ?_) ?_;(· simp);(· ((try simp only [List.length_append,List.length_map,List.length_cons,List.length_nil,List.take_length]);omega));(· ((try simp only [List.length_append,List.length_map,List.length_cons,List.length_nil,List.take_length]);omega)))|(with_reducible refine bg (bN _) ?_))
 all_goals (simp <;> omega)
set_option maxRecDepth 100000 in
set_option maxHeartbeats 8000000 in
theorem Dz (x f y : Wd) (e v : PE) (c : PC) (a : PA) (rs gs : List PE) (fs : List Wd) (b l : List PS') (he : WrE e) : WrS (.mk 5 [] f y e v c a rs gs fs b l):=fun M m hM hb=>by
 have hW : tkS (.mk 5 [] f y e v c a rs gs fs b l) = [[102,114,101,101]]++tkE e++[[46],f]++[[59]]:=by rw [tkS];simp [tkB,fM]
 rw [hW] at hb ⊢
 clear hW
 simp only [List.length_append,List.length_cons,List.length_nil] at hb
 obtain ⟨one,pu,len,g0,g1,g2,g3,s4,s8,s12,s15,g30,g31,g32,g33,g34⟩:=gL 5 [] f y e v c a rs gs fs b l
 unfold WrE at he
 have ne:=(cQ e).nm3
 have re:=(cQ e).rn3
 generalize psA (.mk 5 [] f y e v c a rs gs fs b l) = SC at *
 generalize peA e = EC at *
 generalize tkE e = TE at *
 refine aC [] Tryz.func95 rfl Tryz.ntmps95 (Nat.le_of_ble_eq_true rfl) (Nat.le_of_ble_eq_true rfl) fun w0 G0 B0 Pr hB0=>?_
 simp only [aJ,aB,List.cons_append,List.nil_append]
 repeat' (first|(with_reducible refine hY _ ?_;clear hY Y)|((with_reducible first|refine ar rfl (ay fun K' hK'=>aa ?_)|refine hK' _ (ab fun Y hY=>aa ?_));(try clear hK' K');(try dsimp only [aop]);try simp only [go_sem,seval,az,Tryz.results95,hM,one,len])|(with_reducible first|refine ag ?_|refine aj ?_|refine aF fun K hK=>?_)|((with_reducible refine cD 1 ?_ ?_);(· rfl))|((with_reducible refine bu 1 tk0 az ?_ (ab fun Y hY=>aa ?_));(· rfl);(try dsimp only [aop]);try simp only [go_sem,seval,az,Tryz.results95,hM,one,len])|(with_reducible refine hK _ ?_;clear hK K))
 refine dH 10003 ⟨by decide,by decide⟩ rfl rfl pu (by simp only [go_sem,seval];exact rfl) ?_
 repeat' (first|(with_reducible refine hY _ ?_;clear hY Y)|((with_reducible first|refine ar rfl (ay fun K' hK'=>aa ?_)|refine hK' _ (ab fun Y hY=>aa ?_)|refine ab fun Y hY=>aa ?_|refine ae tk0 az (ab fun Y hY=>aa ?_)|refine aa ?_|refine dw ?_);(try clear hK' K');(try dsimp only [aop]);try simp only [go_sem,seval,az,Tryz.results95,hM,one,len,g0,g1,s4,ne,re,g2])|(with_reducible first|refine ag ?_|refine aj ?_|refine am ?_|refine aF fun K hK=>?_|refine ax ?_|refine av ?_|refine aR ?_|refine ap ?_|refine aD ?_)|(with_reducible refine hK _ ?_;clear hK K)|((with_reducible refine ai ?_ ?_);(· decide))|(with_reducible refine ac (he _ _ ?_ ?_) ?_;(· ((try simp only [List.length_append,List.length_map,List.length_cons,List.length_nil,List.take_length]);omega));(· ((try simp only [List.length_append,List.length_map,List.length_cons,List.length_nil,List.take_length]);omega)))|(with_reducible refine ac (fq _ _ ?_ _ _ ?_ ?_) ?_;(· simp);(· ((try simp only [List.length_append,List.length_map,List.length_cons,List.length_nil,List.take_length]);omega));(· ((try simp only [List.length_append,List.length_map,List.length_cons,List.length_nil,List.take_length]);omega)))|(with_reducible refine bg (bN _) ?_))
 all_goals (simp <;> omega)
set_option maxRecDepth 100000 in
set_option maxHeartbeats 8000000 in
theorem DA (x f y : Wd) (e v : PE) (c : PC) (a : PA) (rs gs : List PE) (fs : List Wd) (b l : List PS') (hc : jP c) (hbk : Wr 38 [.sl (dU b) b.length .none] (tkB b)) (hel : Wr 38 [.sl (dU l) l.length .none] (tkB l)) : WrS (.mk 6 [] f y e v c a rs gs fs b l):=fun M m hM hb=>by
 have hW : tkS (.mk 6 [] f y e v c a rs gs fs b l) = [[105,102]]++tkC c++tkB b++[[101,108,115,101]]++tkB l:=by rw [tkS];simp [tkB,fM]
 rw [hW] at hb ⊢
 clear hW
 simp only [List.length_append,List.length_cons,List.length_nil] at hb
 obtain ⟨one,pu,len,g0,g1,g2,g3,s4,s8,s12,s15,g30,g31,g32,g33,g34⟩:=gL 6 [] f y e v c a rs gs fs b l
 unfold jP at hc
 have nc:=(dv c).nm3
 have rc:=(dv c).rn3
 generalize psA (.mk 6 [] f y e v c a rs gs fs b l) = SC at *
 generalize bR c = CC at *
 generalize tkC c = TC at *
 generalize dU b = BC at *
 generalize tkB b = TB at *
 generalize dU l = LC at *
 generalize tkB l = TL at *
 refine aC [] Tryz.func95 rfl Tryz.ntmps95 (Nat.le_of_ble_eq_true rfl) (Nat.le_of_ble_eq_true rfl) fun w0 G0 B0 Pr hB0=>?_
 simp only [aJ,aB,List.cons_append,List.nil_append]
 repeat' (first|(with_reducible refine hY _ ?_;clear hY Y)|((with_reducible first|refine ar rfl (ay fun K' hK'=>aa ?_)|refine hK' _ (ab fun Y hY=>aa ?_));(try clear hK' K');(try dsimp only [aop]);try simp only [go_sem,seval,az,Tryz.results95,hM,one,len])|(with_reducible first|refine ag ?_|refine aj ?_|refine aF fun K hK=>?_)|((with_reducible refine cD 1 ?_ ?_);(· rfl))|((with_reducible refine bu 1 tk0 az ?_ (ab fun Y hY=>aa ?_));(· rfl);(try dsimp only [aop]);try simp only [go_sem,seval,az,Tryz.results95,hM,one,len])|(with_reducible refine hK _ ?_;clear hK K))
 refine dH 10003 ⟨by decide,by decide⟩ rfl rfl pu (by simp only [go_sem,seval];exact rfl) ?_
 repeat' (first|(with_reducible refine hY _ ?_;clear hY Y)|((with_reducible first|refine ar rfl (ay fun K' hK'=>aa ?_)|refine hK' _ (ab fun Y hY=>aa ?_)|refine ab fun Y hY=>aa ?_|refine ae tk0 az (ab fun Y hY=>aa ?_)|refine aa ?_|refine aq ?_);(try clear hK' K');(try dsimp only [aop]);try simp only [go_sem,seval,az,Tryz.results95,hM,one,len,g0,g1,s12,nc,rc,g33,g34])|(with_reducible first|refine ag ?_|refine aj ?_|refine am ?_|refine aF fun K hK=>?_|refine ax ?_|refine av ?_|refine aZ ?_|refine bh ?_|refine ap ?_|refine aD ?_|refine aA ?_)|(with_reducible refine hK _ ?_;clear hK K)|((with_reducible refine ai ?_ ?_);(· decide))|(with_reducible refine ac (hc _ _ ?_ ?_) ?_;(· ((try simp only [List.length_append,List.length_map,List.length_cons,List.length_nil,List.take_length]);omega));(· ((try simp only [List.length_append,List.length_map,List.length_cons,List.length_nil,List.take_length]);omega)))|(with_reducible refine ac (hbk _ _ ?_ ?_) ?_;(· ((try simp only [List.length_append,List.length_map,List.length_cons,List.length_nil,List.take_length]);omega));(· ((try simp only [List.length_append,List.length_map,List.length_cons,List.length_nil,List.take_length]);omega)))|(with_reducible refine ac (hel _ _ ?_ ?_) ?_;(· ((try simp only [List.length_append,List.length_map,List.length_cons,List.length_nil,List.take_length]);omega));(· ((try simp only [List.length_append,List.length_map,List.length_cons,List.length_nil,List.take_length]);omega)))|(with_reducible refine ac (fq _ _ ?_ _ _ ?_ ?_) ?_;(· simp);(· ((try simp only [List.length_append,List.length_map,List.length_cons,List.length_nil,List.take_length]);omega));(· ((try simp only [List.length_append,List.length_map,List.length_cons,List.length_nil,List.take_length]);omega)))|(with_reducible refine bg (bN _) ?_))
 all_goals (simp <;> omega)
set_option maxRecDepth 100000 in
set_option maxHeartbeats 8000000 in
theorem DB (x f y : Wd) (e v : PE) (c : PC) (a : PA) (rs gs : List PE) (fs : List Wd) (b l : List PS') (hc : jP c) (ha : WrA a) (hbk : Wr 38 [.sl (dU b) b.length .none] (tkB b)) : WrS (.mk 7 [] f y e v c a rs gs fs b l):=fun M m hM hb=>by
 have hW : tkS (.mk 7 [] f y e v c a rs gs fs b l) = [[119,104,105,108,101]]++tkC c++[[105,110,118,97,114,105,97,110,116]]++tkA a++tkB b:=by rw [tkS];simp [tkB,fM]
 rw [hW] at hb ⊢
 clear hW
 simp only [List.length_append,List.length_cons,List.length_nil] at hb
 obtain ⟨one,pu,len,g0,g1,g2,g3,s4,s8,s12,s15,g30,g31,g32,g33,g34⟩:=gL 7 [] f y e v c a rs gs fs b l
 unfold jP at hc
 have nc:=(dv c).nm3
 have rc:=(dv c).rn3
 unfold WrA at ha
 have na:=(dV a).nm3
 have ra:=(dV a).rn3
 generalize psA (.mk 7 [] f y e v c a rs gs fs b l) = SC at *
 generalize bR c = CC at *
 generalize tkC c = TC at *
 generalize paA a = AC at *
 generalize tkA a = TA at *
 generalize dU b = BC at *
 generalize tkB b = TB at *
 refine aC [] Tryz.func95 rfl Tryz.ntmps95 (Nat.le_of_ble_eq_true rfl) (Nat.le_of_ble_eq_true rfl) fun w0 G0 B0 Pr hB0=>?_
 simp only [aJ,aB,List.cons_append,List.nil_append]
 repeat' (first|(with_reducible refine hY _ ?_;clear hY Y)|((with_reducible first|refine ar rfl (ay fun K' hK'=>aa ?_)|refine hK' _ (ab fun Y hY=>aa ?_));(try clear hK' K');(try dsimp only [aop]);try simp only [go_sem,seval,az,Tryz.results95,hM,one,len])|(with_reducible first|refine ag ?_|refine aj ?_|refine aF fun K hK=>?_)|((with_reducible refine cD 1 ?_ ?_);(· rfl))|((with_reducible refine bu 1 tk0 az ?_ (ab fun Y hY=>aa ?_));(· rfl);(try dsimp only [aop]);try simp only [go_sem,seval,az,Tryz.results95,hM,one,len])|(with_reducible refine hK _ ?_;clear hK K))
 refine dH 10003 ⟨by decide,by decide⟩ rfl rfl pu (by simp only [go_sem,seval];exact rfl) ?_
 repeat' (first|(with_reducible refine hY _ ?_;clear hY Y)|((with_reducible first|refine ar rfl (ay fun K' hK'=>aa ?_)|refine hK' _ (ab fun Y hY=>aa ?_)|refine ab fun Y hY=>aa ?_|refine ae tk0 az (ab fun Y hY=>aa ?_)|refine aa ?_|refine aq ?_);(try clear hK' K');(try dsimp only [aop]);try simp only [go_sem,seval,az,Tryz.results95,hM,one,len,g0,g1,s12,nc,rc,s15,na,ra,g33])|(with_reducible first|refine ag ?_|refine aj ?_|refine am ?_|refine aF fun K hK=>?_|refine ax ?_|refine av ?_|refine aZ ?_|refine bh ?_|refine ap ?_|refine aD ?_|refine aA ?_)|(with_reducible refine hK _ ?_;clear hK K)|((with_reducible refine ai ?_ ?_);(· decide))|(with_reducible refine ac (hc _ _ ?_ ?_) ?_;(· ((try simp only [List.length_append,List.length_map,List.length_cons,List.length_nil,List.take_length]);omega));(· ((try simp only [List.length_append,List.length_map,List.length_cons,List.length_nil,List.take_length]);omega)))|(with_reducible refine ac (ha _ _ ?_ ?_) ?_;(· ((try simp only [List.length_append,List.length_map,List.length_cons,List.length_nil,List.take_length]);omega));(· ((try simp only [List.length_append,List.length_map,List.length_cons,List.length_nil,List.take_length]);omega)))|(with_reducible refine ac (hbk _ _ ?_ ?_) ?_;(· ((try simp only [List.length_append,List.length_map,List.length_cons,List.length_nil,List.take_length]);omega));(· ((try simp only [List.length_append,List.length_map,List.length_cons,List.length_nil,List.take_length]);omega)))|(with_reducible refine ac (fq _ _ ?_ _ _ ?_ ?_) ?_;(· simp);(· ((try simp only [List.length_append,List.length_map,List.length_cons,List.length_nil,List.take_length]);omega));(· ((try simp only [List.length_append,List.length_map,List.length_cons,List.length_nil,List.take_length]);omega)))|(with_reducible refine bg (bN _) ?_))
 all_goals (simp <;> omega)
set_option maxRecDepth 100000 in
set_option maxHeartbeats 8000000 in
theorem DD (x f y : Wd) (e v : PE) (c : PC) (a : PA) (rs gs : List PE) (fs : List Wd) (b l : List PS') (hc : jP c) : WrS (.mk 8 [] f y e v c a rs gs fs b l):=fun M m hM hb=>by
 have hW : tkS (.mk 8 [] f y e v c a rs gs fs b l) = [[97,115,115,101,114,116]]++tkC c++[[59]]:=by rw [tkS];simp [tkB,fM]
 rw [hW] at hb ⊢
 clear hW
 simp only [List.length_append,List.length_cons,List.length_nil] at hb
 obtain ⟨one,pu,len,g0,g1,g2,g3,s4,s8,s12,s15,g30,g31,g32,g33,g34⟩:=gL 8 [] f y e v c a rs gs fs b l
 unfold jP at hc
 have nc:=(dv c).nm3
 have rc:=(dv c).rn3
 generalize psA (.mk 8 [] f y e v c a rs gs fs b l) = SC at *
 generalize bR c = CC at *
 generalize tkC c = TC at *
 refine aC [] Tryz.func95 rfl Tryz.ntmps95 (Nat.le_of_ble_eq_true rfl) (Nat.le_of_ble_eq_true rfl) fun w0 G0 B0 Pr hB0=>?_
 simp only [aJ,aB,List.cons_append,List.nil_append]
 repeat' (first|(with_reducible refine hY _ ?_;clear hY Y)|((with_reducible first|refine ar rfl (ay fun K' hK'=>aa ?_)|refine hK' _ (ab fun Y hY=>aa ?_));(try clear hK' K');(try dsimp only [aop]);try simp only [go_sem,seval,az,Tryz.results95,hM,one,len])|(with_reducible first|refine ag ?_|refine aj ?_|refine aF fun K hK=>?_)|((with_reducible refine cD 1 ?_ ?_);(· rfl))|((with_reducible refine bu 1 tk0 az ?_ (ab fun Y hY=>aa ?_));(· rfl);(try dsimp only [aop]);try simp only [go_sem,seval,az,Tryz.results95,hM,one,len])|(with_reducible refine hK _ ?_;clear hK K))
 refine dH 10003 ⟨by decide,by decide⟩ rfl rfl pu (by simp only [go_sem,seval];exact rfl) ?_
 repeat' (first|(with_reducible refine hY _ ?_;clear hY Y)|((with_reducible first|refine ar rfl (ay fun K' hK'=>aa ?_)|refine hK' _ (ab fun Y hY=>aa ?_)|refine ab fun Y hY=>aa ?_|refine ae tk0 az (ab fun Y hY=>aa ?_)|refine aa ?_|refine dw ?_);(try clear hK' K');(try dsimp only [aop]);try simp only [go_sem,seval,az,Tryz.results95,hM,one,len,g0,g1,s12,nc,rc])|(with_reducible first|refine ag ?_|refine aj ?_|refine am ?_|refine aF fun K hK=>?_|refine ax ?_|refine av ?_|refine aR ?_|refine ap ?_|refine aD ?_)|(with_reducible refine hK _ ?_;clear hK K)|((with_reducible refine ai ?_ ?_);(· decide))|(with_reducible refine ac (hc _ _ ?_ ?_) ?_;(· ((try simp only [List.length_append,List.length_map,List.length_cons,List.length_nil,List.take_length]);omega));(· ((try simp only [List.length_append,List.length_map,List.length_cons,List.length_nil,List.take_length]);omega)))|(with_reducible refine ac (fq _ _ ?_ _ _ ?_ ?_) ?_;(· simp);(· ((try simp only [List.length_append,List.length_map,List.length_cons,List.length_nil,List.take_length]);omega));(· ((try simp only [List.length_append,List.length_map,List.length_cons,List.length_nil,List.take_length]);omega)))|(with_reducible refine bg (bN _) ?_))
 all_goals (simp <;> omega)
set_option maxRecDepth 100000 in
set_option maxHeartbeats 8000000 in
theorem DE (x f y : Wd) (e v : PE) (c : PC) (a : PA) (rs gs : List PE) (fs : List Wd) (b l : List PS') (hx : x ≠ []) (hr : Wr 172 [.sl (bY rs) rs.length .none,sy] (ew (rs.map tkE))) (hg : Wr 172 [.sl (bY gs) gs.length .none,sy] (ew (gs.map tkE))) : WrS (.mk 9 x f y e v c a rs gs fs b l):=fun M m hM hb=>by
 have hW : tkS (.mk 9 x f y e v c a rs gs fs b l) = [x,[58,61]]++[[99,97,108,108],y,[40]]++ew (rs.map tkE)++[[59]]++ew (gs.map tkE)++[[41]]++[[59]]:=by rw [tkS];simp [tkB,fM,hx]
 rw [hW] at hb ⊢
 clear hW
 simp only [List.length_append,List.length_cons,List.length_nil] at hb
 obtain ⟨one,pu,len,g0,g1,g2,g3,s4,s8,s12,s15,g30,g31,g32,g33,g34⟩:=gL 9 x f y e v c a rs gs fs b l
 have hbx : (x == []) = false:=by simpa using hx
 generalize psA (.mk 9 x f y e v c a rs gs fs b l) = SC at *
 generalize ew (rs.map tkE) = TR' at *
 generalize ew (gs.map tkE) = TG at *
 generalize bY rs = RC at *
 generalize bY gs = GC at *
 refine aC [] Tryz.func95 rfl Tryz.ntmps95 (Nat.le_of_ble_eq_true rfl) (Nat.le_of_ble_eq_true rfl) fun w0 G0 B0 Pr hB0=>?_
 simp only [aJ,aB,List.cons_append,List.nil_append]
 repeat' (first|(with_reducible refine hY _ ?_;clear hY Y)|((with_reducible first|refine ar rfl (ay fun K' hK'=>aa ?_)|refine hK' _ (ab fun Y hY=>aa ?_));(try clear hK' K');(try dsimp only [aop]);try simp only [go_sem,seval,az,Tryz.results95,hM,one,len])|(with_reducible first|refine ag ?_|refine aj ?_|refine aF fun K hK=>?_)|((with_reducible refine cD 1 ?_ ?_);(· rfl))|((with_reducible refine bu 1 tk0 az ?_ (ab fun Y hY=>aa ?_));(· rfl);(try dsimp only [aop]);try simp only [go_sem,seval,az,Tryz.results95,hM,one,len])|(with_reducible refine hK _ ?_;clear hK K))
 refine dH 10003 ⟨by decide,by decide⟩ rfl rfl pu (by simp only [go_sem,seval];exact rfl) ?_
 repeat' (first|(with_reducible refine hY _ ?_;clear hY Y)|((with_reducible first|refine ar rfl (ay fun K' hK'=>aa ?_)|refine hK' _ (ab fun Y hY=>aa ?_)|refine ab fun Y hY=>aa ?_|refine ae tk0 az (ab fun Y hY=>aa ?_)|refine aa ?_|refine dw ?_);(try clear hK' K');(try dsimp only [aop]);try simp only [go_sem,seval,az,Tryz.results95,hM,one,len,g0,g1,g3,g30,g31,hbx])|(with_reducible first|refine ag ?_|refine aj ?_|refine am ?_|refine aF fun K hK=>?_|refine ax ?_|refine av ?_|refine aR ?_|refine ap ?_)|(with_reducible refine hK _ ?_;clear hK K)|((with_reducible refine ai ?_ ?_);(· decide))|(with_reducible refine ac (hr _ _ ?_ ?_) ?_;(· ((try simp only [List.length_append,List.length_map,List.length_cons,List.length_nil,List.take_length]);omega));(· ((try simp only [List.length_append,List.length_map,List.length_cons,List.length_nil,List.take_length]);omega)))|(with_reducible refine ac (hg _ _ ?_ ?_) ?_;(· ((try simp only [List.length_append,List.length_map,List.length_cons,List.length_nil,List.take_length]);omega));(· ((try simp only [List.length_append,List.length_map,List.length_cons,List.length_nil,List.take_length]);omega)))|(with_reducible refine ac (fq _ _ ?_ _ _ ?_ ?_) ?_;(· simp);(· ((try simp only [List.length_append,List.length_map,List.length_cons,List.length_nil,List.take_length]);omega));(· ((try simp only [List.length_append,List.length_map,List.length_cons,List.length_nil,List.take_length]);omega)))|(with_reducible refine bg (bN _) ?_))
 all_goals (simp <;> omega)
set_option maxRecDepth 100000 in
set_option maxHeartbeats 8000000 in
theorem AW (x f y : Wd) (e v : PE) (c : PC) (a : PA) (rs gs : List PE) (fs : List Wd) (b l : List PS') (hr : Wr 172 [.sl (bY rs) rs.length .none,sy] (ew (rs.map tkE))) (hg : Wr 172 [.sl (bY gs) gs.length .none,sy] (ew (gs.map tkE))) : WrS (.mk 9 [] f y e v c a rs gs fs b l):=fun M m hM hb=>by
 have hW : tkS (.mk 9 [] f y e v c a rs gs fs b l) = [[99,97,108,108],y,[40]]++ew (rs.map tkE)++[[59]]++ew (gs.map tkE)++[[41]]++[[59]]:=by rw [tkS];simp [tkB,fM]
 rw [hW] at hb ⊢
 clear hW
 simp only [List.length_append,List.length_cons,List.length_nil] at hb
 obtain ⟨one,pu,len,g0,g1,g2,g3,s4,s8,s12,s15,g30,g31,g32,g33,g34⟩:=gL 9 [] f y e v c a rs gs fs b l
 generalize psA (.mk 9 [] f y e v c a rs gs fs b l) = SC at *
 generalize ew (rs.map tkE) = TR' at *
 generalize ew (gs.map tkE) = TG at *
 generalize bY rs = RC at *
 generalize bY gs = GC at *
 refine aC [] Tryz.func95 rfl Tryz.ntmps95 (Nat.le_of_ble_eq_true rfl) (Nat.le_of_ble_eq_true rfl) fun w0 G0 B0 Pr hB0=>?_
 simp only [aJ,aB,List.cons_append,List.nil_append]
 repeat' (first|(with_reducible refine hY _ ?_;clear hY Y)|((with_reducible first|refine ar rfl (ay fun K' hK'=>aa ?_)|refine hK' _ (ab fun Y hY=>aa ?_));(try clear hK' K');(try dsimp only [aop]);try simp only [go_sem,seval,az,Tryz.results95,hM,one,len])|(with_reducible first|refine ag ?_|refine aj ?_|refine aF fun K hK=>?_)|((with_reducible refine cD 1 ?_ ?_);(· rfl))|((with_reducible refine bu 1 tk0 az ?_ (ab fun Y hY=>aa ?_));(· rfl);(try dsimp only [aop]);try simp only [go_sem,seval,az,Tryz.results95,hM,one,len])|(with_reducible refine hK _ ?_;clear hK K))
 refine dH 10003 ⟨by decide,by decide⟩ rfl rfl pu (by simp only [go_sem,seval];exact rfl) ?_
 repeat' (first|(with_reducible refine hY _ ?_;clear hY Y)|((with_reducible first|refine ar rfl (ay fun K' hK'=>aa ?_)|refine hK' _ (ab fun Y hY=>aa ?_)|refine ab fun Y hY=>aa ?_|refine ae tk0 az (ab fun Y hY=>aa ?_)|refine aa ?_|refine dw ?_);(try clear hK' K');(try dsimp only [aop]);try simp only [go_sem,seval,az,Tryz.results95,hM,one,len,g0,g1,g3,g30,g31])|(with_reducible first|refine ag ?_|refine aj ?_|refine am ?_|refine aF fun K hK=>?_|refine ax ?_|refine av ?_|refine aR ?_|refine ap ?_|refine aD ?_)|(with_reducible refine hK _ ?_;clear hK K)|((with_reducible refine ai ?_ ?_);(· decide))|(with_reducible refine ac (hr _ _ ?_ ?_) ?_;(· ((try simp only [List.length_append,List.length_map,List.length_cons,List.length_nil,List.take_length]);omega));(· ((try simp only [List.length_append,List.length_map,List.length_cons,List.length_nil,List.take_length]);omega)))|(with_reducible refine ac (hg _ _ ?_ ?_) ?_;(· ((try simp only [List.length_append,List.length_map,List.length_cons,List.length_nil,List.take_length]);omega));(· ((try simp only [List.length_append,List.length_map,List.length_cons,List.length_nil,List.take_length]);omega)))|(with_reducible refine ac (fq _ _ ?_ _ _ ?_ ?_) ?_;(· simp);(· ((try simp only [List.length_append,List.length_map,List.length_cons,List.length_nil,List.take_length]);omega));(· ((try simp only [List.length_append,List.length_map,List.length_cons,List.length_nil,List.take_length]);omega)))|(with_reducible refine bg (bN _) ?_))
 all_goals (simp <;> omega)
end Go.Proofs.YtkjnkkmokojnpaaGreatDoor
namespace Go.Proofs.YtkjnkkmokojnpaaGreatDoor
set_option linter.unusedSimpArgs false
set_option linter.unusedVariables false
open Go.RowKit
theorem Aa {x : Wd} (h : dQ x = true) : x ≠ []:=by
 intro e
 subst e
 revert h
 decide
theorem xT {x : Wd} (h : x.isEmpty = true) : x = []:=by simpa using h
theorem DG (hi : ItC) (k : Int) (x f y : Wd) (e v : PE) (c : PC) (a : PA) (rs gs : List PE) (fs : List Wd) (b l : List PS') (hs : seS (.mk k x f y e v c a rs gs fs b l) = true) (lr : Lg rs) (lg : Lg gs) (lf : Lg fs)
  (hb : gW b = true→Wr 38 [.sl (dU b) b.length .none] (tkB b)) (hd : gW l = true→Wr 38 [.sl (dU l) l.length .none] (tkB l)) : WrS (.mk k x f y e v c a rs gs fs b l):=by
 rw [seS] at hs
 by_cases k0 : k = 0
 ·subst k0
  simp only [if_true,Bool.and_eq_true] at hs
  obtain rfl:=xT hs.1
  exact Du [] f y e v c a rs gs fs b l
 rw [if_neg k0] at hs
 by_cases k1 : k = 1
 ·subst k1
  simp only [if_true,Bool.and_eq_true] at hs
  exact Dv x f y e v c a rs gs fs b l (Aa hs.1) (jm hi e hs.2.2.2.1).1
 rw [if_neg k1] at hs
 by_cases k2 : k = 2
 ·subst k2
  simp only [if_true,Bool.and_eq_true] at hs
  exact Dw x f y e v c a rs gs fs b l (Aa hs.1) (jm hi e hs.2.2.2.1).1
 rw [if_neg k2] at hs
 by_cases k3 : k = 3
 ·subst k3
  simp only [if_true,Bool.and_eq_true] at hs
  obtain rfl:=xT hs.1
  exact Dx [] f y e v c a rs gs fs b l (jm hi e hs.2.2.2.1).1 (jm hi v hs.2.2.2.2.1).1
 rw [if_neg k3] at hs
 by_cases k4 : k = 4
 ·subst k4
  simp only [if_true,Bool.and_eq_true] at hs
  exact Dy x f y e v c a rs gs fs b l (Aa hs.1) (rK fs lf)
 rw [if_neg k4] at hs
 by_cases k5 : k = 5
 ·subst k5
  simp only [if_true,Bool.and_eq_true] at hs
  obtain rfl:=xT hs.1
  exact Dz [] f y e v c a rs gs fs b l (jm hi e hs.2.2.2.1).1
 rw [if_neg k5] at hs
 by_cases k6 : k = 6
 ·subst k6
  simp only [if_true,Bool.and_eq_true] at hs
  obtain rfl:=xT hs.1
  exact DA [] f y e v c a rs gs fs b l (mo hi c hs.2.2.2.2.2.1).2.1 (hb hs.2.2.2.2.2.2.2.2.2.2.1) (hd hs.2.2.2.2.2.2.2.2.2.2.2)
 rw [if_neg k6] at hs
 by_cases k7 : k = 7
 ·subst k7
  simp only [if_true,Bool.and_eq_true] at hs
  obtain rfl:=xT hs.1
  exact DB [] f y e v c a rs gs fs b l (mo hi c hs.2.2.2.2.2.1).2.1 (pW hi a hs.2.2.2.2.2.2.1) (hb hs.2.2.2.2.2.2.2.2.2.2.1)
 rw [if_neg k7] at hs
 by_cases k8 : k = 8
 ·subst k8
  simp only [if_true,Bool.and_eq_true] at hs
  obtain rfl:=xT hs.1
  exact DD [] f y e v c a rs gs fs b l (mo hi c hs.2.2.2.2.2.1).2.1
 rw [if_neg k8] at hs
 by_cases k9 : k = 9
 ·subst k9
  simp only [if_true,Bool.and_eq_true] at hs
  have c1:=vC rs lr fun z hz=>(kw hi rs hs.2.2.2.2.2.2.2.1 z hz).1
  have c2:=vC gs lg fun z hz=>(kw hi gs hs.2.2.2.2.2.2.2.2.1 z hz).1
  by_cases hx : x = []
  ·subst hx
   exact AW [] f y e v c a rs gs fs b l c1 c2
  ·exact DE x f y e v c a rs gs fs b l hx c1 c2
 ·rw [if_neg k9] at hs;cases hs
mutual
theorem DF (hi : ItC) :∀ e,OkS e→seS e = true→WrS e
|.mk k x f y e v c a rs gs fs b l,ho,hs=>by
  obtain ⟨_,_,_,_,_,_,_,_,⟨l1,_⟩,⟨l2,_⟩,⟨l5,_⟩,⟨l3,o3⟩,l4,o4⟩:=ho
  exact DG hi k x f y e v c a rs gs fs b l hs l1 l2 l5 (fun h=>oW b l3 (mq hi b o3 h)) (fun h=>oW l l4 (mq hi l o4 h))
theorem mq (hi : ItC) :∀ l,jB l→gW l = true→∀ a ∈ l,WrS a
|[],_,_=>fun e he=>absurd he List.not_mem_nil
|e :: r,ho,hs=>fun a ha=>by
  rw [gW,Bool.and_eq_true] at hs
  exact (List.mem_cons.1 ha).elim (fun q=>q ▸ DF hi e ho.1 hs.1) (mq hi r ho.2 hs.2 a)
end
abbrev JnC : Prop:=∀ L : List Wd,L.length≤1000000000000→(aX L).length≤1000000000000→AFn Tryz.prog 39 [.sl (L.map bs) L.length .none,bs [32]] [] (bs (aX L)) []
abbrev oY (ps : List PP) : Prop:=AFn Tryz.prog 16 [.agg [gv ps]] [] (.tup [bs (fK ps).1,fm (fK ps).2]) []
theorem wr {ps : List PP} (h : ¬ eO ps = 0) : fK ps = ([],eO ps):=by unfold fK;rw [if_neg h]
theorem u9 {ps : List PP} (h : eO ps = 0) (h2 : ¬ (aX (dX ps)).length≤65536) : fK ps = ([],2):=by unfold fK;rw [if_pos h,if_neg h2]
theorem yr {ps : List PP} (h : eO ps = 0) (h2 : (aX (dX ps)).length≤65536) : fK ps = (aX (dX ps),0):=by unfold fK;rw [if_pos h,if_pos h2]
theorem yp {ps : List PP} (h : eO ps = 0) :∀ x ∈ ps,fC x = true:=by
 unfold eO at h
 split at h
 ·cases h
 ·split at h
  ·rename_i h2;exact fun x hx=>List.all_eq_true.1 h2 x hx
  ·cases h
theorem wz {l : List PP} {k : Nat} (h : k < l.length) : dX (l.take (k + 1)) = dX (l.take k)++tkP l[k]:=by
 have :∀ (a : List PP) (x : PP),dX (a++[x]) = dX a++tkP x:=fun a x=>by simp [dX]
 rw [List.take_succ_eq_append_getElem h,this]
theorem zT :∀ l : List Wd,l.length≤tl l
|[]=>Nat.le_refl _
|a :: r=>by have:=zT r;rw [List.length_cons,tl];omega
theorem vz (l : List PP) (k : Nat) : (dX (l.take k)).length≤(dX l).length:=by
 have h : dX l = dX (l.take k)++dX (l.drop k):=by
  unfold dX
  rw [← List.flatMap_append,List.take_append_drop]
 rw [h,List.length_append];omega
def cG : Nat→List Nat
|0=>[0]
|1=>[1]
|2=>[1,4]
|3=>[4]
|4=>[1]
|5=>[1,5]
|6=>[5,17,18,19]
|7=>[5,17,18,19]
|8=>[5,7,17,18,19]
|9=>[5,7,17,18,19]
|10=>[5,7,17,18,19]
|11=>[5,7,17,18,19]
|12=>[5,7,17,18,19]
|13=>[5,7,17,18,19]
|14=>[5,7,17,18,19]
|15=>[5,7,17,18,19]
|16=>[5,7,17,18,19]
|17=>[5,17,18,19]
|18=>[5]
|19=>[8]
|20=>[]
|21=>[8]
|_=>[]
set_option maxRecDepth 100000 in
set_option maxHeartbeats 16000000 in
theorem Eq (hi : ItC) (hj : JnC) (ps : List PP) (hps : mt ps) (hlt :∀ x ∈ ps,LtT x 600) (hn50 : ps.length≤50) (hck : AFn Tryz.prog 17 [.agg [gv ps]] [] (fm (eO ps)) []) : oY ps:=by
 obtain ⟨hpl,hpo⟩:=hps
 unfold Lg at hpl
 have hfl:=nU ps
 unfold oY
 by_cases hE : eO ps = 0
 ·have hok:=yp hE
  have htl:=ud ps fun x hx=>⟨hok x hx,hlt x hx⟩
  have hjl:=gk (dX ps)
  have hll:=zT (dX ps)
  obtain ⟨R,hR⟩ : ∃ R,R = fK ps:=⟨_,rfl⟩
  have hR1 : ¬ (aX (dX ps)).length≤65536→R = ([],2):=fun h=>hR.trans (u9 hE h)
  have hR2 : (aX (dX ps)).length≤65536→R = (aX (dX ps),0):=fun h=>hR.trans (yr hE h)
  rw [← hR]
  rw [hE] at hck
  have hc0 : fm 0 = .c .nilIface:=rfl
  rw [hc0] at hck
  clear hR hE
  refine aC [] Tryz.func16 rfl Tryz.ntmps16 (Nat.le_of_ble_eq_true rfl) (Nat.le_of_ble_eq_true rfl) fun w0 G0 B0 Pr hB0=>?_
  simp only [aJ,aB,List.cons_append,List.nil_append]
  repeat' (first|(with_reducible refine hY _ ?_;clear hY Y)|((with_reducible first|refine ar rfl (ay fun K' hK'=>aa ?_)|refine hK' _ (ab fun Y hY=>aa ?_)|refine ab fun Y hY=>aa ?_|refine ae tk0 cG (ab fun Y hY=>aa ?_)|refine aa ?_);(try clear hK' K');(try dsimp only [aop]);try simp only [go_sem,seval,cG,Tryz.results16])|(with_reducible first|refine ag ?_|refine aj ?_|refine am ?_|refine aF fun K hK=>?_|refine av ?_|refine ap ?_|refine aD ?_|refine bW ?_)|(with_reducible refine hK _ ?_;clear hK K)|((with_reducible refine ai ?_ ?_);(· decide))|(with_reducible refine ac (hck) ?_)|(with_reducible refine bg (pN) ?_))
  clear hck
  refine jS (qc (b:=19000) (k0:=10015) (i:=0) 9 ⟨by decide,by decide⟩ (by decide) (by decide) rfl rfl rfl) ?_
  refine b9 (α:=Nat) (fun k=>[(5,.loc 10015 0),(17,gv ps),(18,inA (ps.length : Int)),(19,inA (k : Int)),(10015,.bc [.sl ((dX (ps.take k)).map bs) (dX (ps.take k)).length (.tok 19000)] 79),(19000,.bt (dX (ps.take k)).length 9)])
   (fun k=>k≤ps.length) (fun k=>ps.length - k) 0 [5,17,18,19] ?_ (Nat.zero_le _) ?_
  ·simp only [go_sem,seval] <;> rfl
  intro k hk ih
  have hle:=vz ps k
  have hlM : ((dX (ps.take k)).map bs).length = (dX (ps.take k)).length:=by simp
  by_cases hlt2 : k < ps.length
  ·have hlt' : ((k : Int) < (ps.length : Int)) = True:=eq_true (by omega)
   have hkw:=eB (n:=k) (by omega)
   have hg0:=mP hlt2
   have hox:=hpo ps[k] (List.getElem_mem hlt2)
   have hsx:=hok ps[k] (List.getElem_mem hlt2)
   have hst:=wz hlt2
   have hle2:=vz ps (k + 1)
   have ihk:=ih (k + 1) (by omega) (by omega)
   rw [hst] at ihk hle2
   rw [List.map_append,List.length_append] at ihk
   clear hst ih
   generalize ps[k] = x at *
   obtain ⟨_,⟨lp,_⟩,⟨lgh,_⟩,hpre,hpost,hbl,hbo⟩:=hox
   unfold fC at hsx
   simp only [Bool.and_eq_true] at hsx
   obtain ⟨s1,s2,s3,s4,s5,s6⟩:=hsx
   have c1:=rK x.params lp
   have c2:=rK x.ghosts lgh
   have c3:=pW hi x.pre s4
   have c4:=pW hi x.post s5
   have c5:=oW x.body hbl (mq hi x.body hbo s6)
   unfold WrA at c3 c4
   have nP:=(dV x.pre).nm3
   have nQ:=(dV x.post).nm3
   have rP:=(dV x.pre).rn3
   have rQ:=(dV x.post).rn3
   obtain ⟨hx1,hxp,hxl,f0,f1,f2,f3,f18,f33⟩:=sI x
   unfold tkP at ihk hle2
   simp only [List.length_append,List.length_cons,List.length_nil] at hle2
   generalize ppA x = XC at *
   generalize paA x.pre = PA at *
   generalize paA x.post = QA at *
   generalize dU x.body = BA at *
   generalize x.body.length = bl at *
   generalize ew (x.params.map fun x=>[x]) = T1 at *
   generalize ew (x.ghosts.map fun x=>[x]) = T2 at *
   generalize tkA x.pre = T3 at *
   generalize tkA x.post = T4 at *
   generalize tkB x.body = T5 at *
   generalize x.params.map bs = MA at *
   generalize x.params.length = ml at *
   generalize x.ghosts.map bs = GA at *
   generalize x.ghosts.length = gl at *
   generalize x.name = xn at *
   generalize (dX (ps.take k)).map bs = T at *
   generalize (dX (ps.take k)).length = tn at *
   clear hpo hok hlt hR1 hR2
   repeat' (first|(with_reducible refine hY _ ?_;clear hY Y)|((with_reducible first|refine ar rfl (ay fun K' hK'=>aa ?_)|refine hK' _ (ab fun Y hY=>aa ?_)|refine ab fun Y hY=>aa ?_);(try clear hK' K');(try dsimp only [aop]);try simp only [go_sem,seval,cG,Tryz.results16,hlt',hg0,hfl,hkw,hx1,hxl])|(with_reducible first|refine ag ?_|refine aj ?_|refine aF fun K hK=>?_|refine ax ?_|refine ap ?_|refine aD ?_)|((with_reducible refine cD 8 ?_ ?_);(· rfl))|((with_reducible refine bu 8 tk0 cG ?_ (ab fun Y hY=>aa ?_));(· rfl);(try dsimp only [aop]);try simp only [go_sem,seval,cG,Tryz.results16,hlt',hg0,hfl,hkw,hx1,hxl])|(with_reducible refine hK _ ?_;clear hK K)|((with_reducible refine ai ?_ ?_);(· decide))|(with_reducible refine br ?_ ?_;(· (try and_intros) <;> first|omega|assumption|(simp only [List.length_append,List.length_map,List.length_cons,List.length_nil] <;> omega))))
   refine dH 10007 ⟨by decide,by decide⟩ rfl rfl hxp (by simp only [go_sem,seval];exact rfl) ?_
   repeat' (first|(with_reducible refine hY _ ?_;clear hY Y)|((with_reducible first|refine ar rfl (ay fun K' hK'=>aa ?_)|refine hK' _ (ab fun Y hY=>aa ?_)|refine ae tk0 cG (ab fun Y hY=>aa ?_)|refine aa ?_);(try clear hK' K');(try dsimp only [aop]);try simp only [go_sem,seval,cG,Tryz.results16,hkw,hxl,hlM,f0,f1,f2,f3,f18,f33,nP,nQ,rP,rQ])|(with_reducible first|refine ag ?_|refine aj ?_|refine am ?_|refine aF fun K hK=>?_|refine aR ?_)|(with_reducible refine hK _ ?_;clear hK K)|(with_reducible refine ac (c1 _ _ ?_ ?_) ?_;(· ((try simp only [List.length_append,List.length_map,List.length_cons,List.length_nil,List.take_length]);omega));(· ((try simp only [List.length_append,List.length_map,List.length_cons,List.length_nil,List.take_length]);omega)))|(with_reducible refine ac (c2 _ _ ?_ ?_) ?_;(· ((try simp only [List.length_append,List.length_map,List.length_cons,List.length_nil,List.take_length]);omega));(· ((try simp only [List.length_append,List.length_map,List.length_cons,List.length_nil,List.take_length]);omega)))|(with_reducible refine ac (c3 _ _ ?_ ?_) ?_;(· ((try simp only [List.length_append,List.length_map,List.length_cons,List.length_nil,List.take_length]);omega));(· ((try simp only [List.length_append,List.length_map,List.length_cons,List.length_nil,List.take_length]);omega)))|(with_reducible refine ac (c4 _ _ ?_ ?_) ?_;(· ((try simp only [List.length_append,List.length_map,List.length_cons,List.length_nil,List.take_length]);omega));(· ((try simp only [List.length_append,List.length_map,List.length_cons,List.length_nil,List.take_length]);omega)))|(with_reducible refine ac (c5 _ _ ?_ ?_) ?_;(· ((try simp only [List.length_append,List.length_map,List.length_cons,List.length_nil,List.take_length]);omega));(· ((try simp only [List.length_append,List.length_map,List.length_cons,List.length_nil,List.take_length]);omega)))|(with_reducible refine ac (fq _ _ ?_ _ _ ?_ ?_) ?_;(· simp);(· ((try simp only [List.length_append,List.length_map,List.length_cons,List.length_nil,List.take_length]);omega));(· ((try simp only [List.length_append,List.length_map,List.length_cons,List.length_nil,List.take_length]);omega))))
   refine bi [5,17,18,19] (by simp only [go_sem,seval];exact rfl) ?_
   exact dd ihk (by simp [Nat.add_assoc] <;> omega)
  ·have hlt' : ((k : Int) < (ps.length : Int)) = False:=eq_false (by omega)
   obtain rfl : k = ps.length:=by omega
   rw [List.take_length] at hlM ⊢
   have hj1:=hj (dX ps) (by omega) (by omega)
   have hj2 : AFn Tryz.prog 39 [.sl ((dX ps).map bs) (dX ps).length (.tok 20000),bs [32]] [.bt (dX ps).length 9] (bs (aX (dX ps))) [.bt (dX ps).length 9]:=sj hj1 rfl
   clear ih hpo hok hlt hj1 hj hi
   generalize aX (dX ps) = J at *
   generalize (dX ps).map bs = T at *
   generalize (dX ps).length = tn at *
   by_cases hT : J.length≤65536
   ·have hT' : ((65536 : Int) < (J.length : Int)) = False:=eq_false (by omega)
    rw [hR2 hT]
    clear hR1 hR2
    repeat' (first|(with_reducible refine hY _ ?_;clear hY Y)|((with_reducible first|refine ar rfl (ay fun K' hK'=>aa ?_)|refine hK' _ (ab fun Y hY=>aa ?_)|refine ab fun Y hY=>aa ?_|refine ae tk0 cG (ab fun Y hY=>aa ?_)|refine aa ?_|refine aq ?_);(try clear hK' K');(try dsimp only [aop]);try simp only [go_sem,seval,cG,Tryz.results16,hlt',hT'])|(with_reducible first|refine ag ?_|refine aj ?_|refine am ?_|refine aF fun K hK=>?_|refine av ?_|refine cf ?_|refine bI ?_|refine aD ?_|refine aA ?_|refine bH ?_)|(with_reducible refine hK _ ?_;clear hK K)|((with_reducible refine ai ?_ ?_);(· decide))|(with_reducible refine ac (hj2) ?_))
    all_goals rfl
   ·have hT' : ((65536 : Int) < (J.length : Int)) = True:=eq_true (by omega)
    rw [hR1 hT]
    clear hR1 hR2
    repeat' (first|(with_reducible refine hY _ ?_;clear hY Y)|((with_reducible first|refine ar rfl (ay fun K' hK'=>aa ?_)|refine hK' _ (ab fun Y hY=>aa ?_)|refine ab fun Y hY=>aa ?_|refine ae tk0 cG (ab fun Y hY=>aa ?_)|refine aa ?_|refine aq ?_);(try clear hK' K');(try dsimp only [aop]);try simp only [go_sem,seval,cG,Tryz.results16,hlt',hT'])|(with_reducible first|refine ag ?_|refine aj ?_|refine am ?_|refine aF fun K hK=>?_|refine ax ?_|refine av ?_|refine cf ?_|refine aZ ?_|refine bI ?_|refine aA ?_|refine bH ?_)|(with_reducible refine hK _ ?_;clear hK K)|((with_reducible refine ai ?_ ?_);(· decide))|(with_reducible refine ac (hj2) ?_))
    all_goals rfl
 ·rw [wr hE]
  have hcp:=eV hE
  rw [hcp] at hck ⊢
  generalize eO ps = E at *
  refine aC [] Tryz.func16 rfl Tryz.ntmps16 (Nat.le_of_ble_eq_true rfl) (Nat.le_of_ble_eq_true rfl) fun w0 G0 B0 Pr hB0=>?_
  simp only [aJ,aB,List.cons_append,List.nil_append]
  repeat' (first|(with_reducible refine hY _ ?_;clear hY Y)|((with_reducible first|refine ar rfl (ay fun K' hK'=>aa ?_)|refine hK' _ (ab fun Y hY=>aa ?_)|refine ab fun Y hY=>aa ?_|refine ae tk0 cG (ab fun Y hY=>aa ?_)|refine aa ?_|refine aq ?_);(try clear hK' K');(try dsimp only [aop]);try simp only [go_sem,seval,cG,Tryz.results16])|(with_reducible first|refine ag ?_|refine aj ?_|refine am ?_|refine aF fun K hK=>?_|refine ax ?_|refine aZ ?_|refine aA ?_)|(with_reducible refine hK _ ?_;clear hK K)|((with_reducible refine ai ?_ ?_);(· decide))|(with_reducible refine ac (hck) ?_))
end Go.Proofs.YtkjnkkmokojnpaaGreatDoor

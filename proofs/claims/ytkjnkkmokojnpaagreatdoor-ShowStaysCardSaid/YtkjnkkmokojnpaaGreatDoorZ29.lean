/- Which assertions can be shown, in K. -/
import Derived.Test.YtkjnkkmokojnpaaGreatDoorZ28
namespace Go.Proofs.YtkjnkkmokojnpaaGreatDoor
set_option linter.unusedSimpArgs false
set_option linter.unusedVariables false
open Go.RowKit
abbrev mv (e : PA) : Prop:=AFn Tryz.prog 44 [.agg (paA e)] [] (.c (.bool (seA e))) []
def il : Nat→List Nat
 | 0=>[0]
 | 1=>[1]
 | _=>[]
set_option maxRecDepth 100000 in
theorem Bc (e : PA) (h : mv e) : AFn Tryz.prog 113 [.agg (paA e)] [] (.c (.bool (!seA e))) []:=by
 unfold mv at h
 generalize seA e = p at *
 obtain ⟨k,⟨ck,ce,cks⟩,⟨ek,en,ex,eks⟩,⟨vk,vn,vx,vks⟩,f,n,ks⟩:=e
 simp only [paA,bR,peA,List.cons_append,List.nil_append] at h ⊢
 refine aC [] Tryz.func113 rfl Tryz.ntmps113 (Nat.le_of_ble_eq_true rfl) (Nat.le_of_ble_eq_true rfl) fun w0 G0 B0 Pr hB0=>?_
 simp only [aJ,aB,List.cons_append,List.nil_append]
 repeat' (first | (with_reducible refine hY _ ?_;clear hY Y) | ((with_reducible first | refine ar rfl (ay fun K' hK'=>aa ?_) | refine hK' _ (ab fun Y hY=>aa ?_) | refine ae tk0 il (ab fun Y hY=>aa ?_) | refine aa ?_ | refine aq ?_);(try clear hK' K');(try dsimp only [aop]);try simp only [go_sem,seval,il,Tryz.results113]) | (with_reducible first | refine ag ?_ | refine aj ?_ | refine am ?_ | refine aF fun K hK=>?_ | refine aA ?_) | (with_reducible refine hK _ ?_;clear hK K) | (with_reducible refine ac (h) ?_))
def eC : Nat→List Nat
 | 0=>[0]
 | 1=>[1]
 | 2=>[1,3]
 | 3=>[1,3,4]
 | 4=>[1,3,4,5]
 | 5=>[1,3,4]
 | 6=>[1,3,4,5]
 | 7=>[1,3,4,6]
 | 8=>[1,3,6]
 | 9=>[1,3,6]
 | 10=>[1,3,6]
 | 11=>[1,6]
 | 12=>[1,6]
 | 13=>[1,6]
 | 14=>[1,6]
 | 15=>[1,6]
 | 16=>[1,6]
 | _=>[]
set_option maxRecDepth 100000 in
set_option maxHeartbeats 16000000 in
theorem ta (k : Int) (c : PC) (e v : PE) (f : Wd) (n : Int) (ks : List PA) (hc : OkC c) (he : OkE e) (hv : OkE v) (hf : Lg f) (hks : Lg ks) (h : ∀ e ∈ ks,mv e) : mv (.mk k c e v f n ks):=by
 unfold mv
 rw [seA]
 have h1:=vZ c hc
 have h2:=oE e
 have h3:=oE v
 have h4:=jT c hc
 have h5:=fL e he
 have h6:=fL v hv
 have h7:=ja f (by unfold Lg at hf;omega)
 have h8:=Bx ks 113 (fun x=>!seA x) rfl hks fun y hy=>Bc y (h y hy)
 have h9 : (!ks.any fun x=>!seA x) = lN ks:=by rw [ni,oc]
 unfold jF at h4
 unfold iu at h5 h6
 rw [← h9]
 unfold vO mN x5
 unfold Lg at hks
 clear h h9 hc he hv hf
 generalize (ks.any fun x=>!seA x) = q at *
 generalize fi c = p1 at *
 generalize dG e = p2 at *
 generalize dG v = p3 at *
 generalize seC c = p4 at *
 generalize seE e = p5 at *
 generalize seE v = p6 at *
 generalize dQ f = p7 at *
 obtain ⟨ck,ce,cks⟩:=c
 obtain ⟨ek,en,ex,eks⟩:=e
 obtain ⟨vk,vn,vx,vks⟩:=v
 simp only [paA,bR,peA,List.cons_append,List.nil_append] at h1 h2 h3 h4 h5 h6 ⊢
 rcases (by omega : k = 0∨k = 1∨k = 2∨k = 3∨k = 4∨k = 5∨k < 0∨5 < k) with rfl | rfl | rfl | rfl | rfl | rfl | g0 | g0
 case inr.inr.inr.inr.inr.inr.inl =>
  have g1 : (0≤k) = False:=eq_false (by omega)
  have g2 : (k = 0) = False:=eq_false (by omega)
  have g3 : (k = 1) = False:=eq_false (by omega)
  have g4 : (k = 2) = False:=eq_false (by omega)
  have g5 : (k = 3) = False:=eq_false (by omega)
  have g6 : (k = 4) = False:=eq_false (by omega)
  have g7 : (k = 5) = False:=eq_false (by omega)
  simp only [g2,g3,g4,g5,g6,g7,if_false,Bool.false_and]
  refine aC [] Tryz.func44 rfl Tryz.ntmps44 (Nat.le_of_ble_eq_true rfl) (Nat.le_of_ble_eq_true rfl) fun w0 G0 B0 Pr hB0=>?_
  simp only [aJ,aB,List.cons_append,List.nil_append]
  repeat' (first | (with_reducible refine hY _ ?_;clear hY Y) | ((with_reducible first | refine ar rfl (ay fun K' hK'=>aa ?_) | refine hK' _ (ab fun Y hY=>aa ?_) | refine ba rfl (ab fun Y hY=>aa ?_) | refine ab fun Y hY=>aa ?_ | refine ay fun K' hK'=>aa ?_ | refine ae tk0 eC (ab fun Y hY=>aa ?_) | refine aa ?_ | refine aq ?_);(try clear hK' K');(try dsimp only [aop]);try simp only [go_sem,seval,eC,Tryz.results44,g1,g2,g3,g4,g5,g6,g7]) | (with_reducible first | refine ag ?_ | refine aW rfl ?_ | refine aK ?_ | refine dc ?_ ?_ | refine aj ?_ | refine am ?_ | refine aF fun K hK=>?_ | refine av ?_ | refine aD ?_ | refine aA ?_) | (with_reducible refine hK _ ?_;clear hK K) | ((with_reducible first | refine aI ?_ ?_ | refine ai ?_ ?_);(· decide)))
  all_goals rfl
 case inr.inr.inr.inr.inr.inr.inr =>
  have g1 : (k≤5) = False:=eq_false (by omega)
  have g8 : (0≤k) = True:=eq_true (by omega)
  have g2 : (k = 0) = False:=eq_false (by omega)
  have g3 : (k = 1) = False:=eq_false (by omega)
  have g4 : (k = 2) = False:=eq_false (by omega)
  have g5 : (k = 3) = False:=eq_false (by omega)
  have g6 : (k = 4) = False:=eq_false (by omega)
  have g7 : (k = 5) = False:=eq_false (by omega)
  simp only [g2,g3,g4,g5,g6,g7,if_false,Bool.false_and]
  refine aC [] Tryz.func44 rfl Tryz.ntmps44 (Nat.le_of_ble_eq_true rfl) (Nat.le_of_ble_eq_true rfl) fun w0 G0 B0 Pr hB0=>?_
  simp only [aJ,aB,List.cons_append,List.nil_append]
  repeat' (first | (with_reducible refine hY _ ?_;clear hY Y) | ((with_reducible first | refine ar rfl (ay fun K' hK'=>aa ?_) | refine hK' _ (ab fun Y hY=>aa ?_) | refine ba rfl (ab fun Y hY=>aa ?_) | refine ab fun Y hY=>aa ?_ | refine ay fun K' hK'=>aa ?_ | refine ae tk0 eC (ab fun Y hY=>aa ?_) | refine aa ?_ | refine aq ?_);(try clear hK' K');(try dsimp only [aop]);try simp only [go_sem,seval,eC,Tryz.results44,g1,g2,g3,g4,g5,g6,g7,g8]) | (with_reducible first | refine ag ?_ | refine aW rfl ?_ | refine aK ?_ | refine dc ?_ ?_ | refine aj ?_ | refine am ?_ | refine aF fun K hK=>?_ | refine av ?_ | refine aD ?_ | refine aA ?_) | (with_reducible refine hK _ ?_;clear hK K) | ((with_reducible first | refine aI ?_ ?_ | refine ai ?_ ?_);(· decide)))
  all_goals rfl
 all_goals simp only [reduceCtorEq,Int.reduceEq,if_true,if_false]
 all_goals
  refine aC [] Tryz.func44 rfl Tryz.ntmps44 (Nat.le_of_ble_eq_true rfl) (Nat.le_of_ble_eq_true rfl) fun w0 G0 B0 Pr hB0=>?_
  simp only [aJ,aB,List.cons_append,List.nil_append]
 all_goals
  repeat' (first | (with_reducible refine hY _ ?_;clear hY Y) | ((with_reducible first | refine ar rfl (ay fun K' hK'=>aa ?_) | refine hK' _ (ab fun Y hY=>aa ?_) | refine ba rfl (ab fun Y hY=>aa ?_) | refine ab fun Y hY=>aa ?_ | refine ay fun K' hK'=>aa ?_ | refine ae tk0 eC (ab fun Y hY=>aa ?_) | refine aa ?_ | refine aq ?_);(try clear hK' K');(try dsimp only [aop]);try simp only [go_sem,seval,eC,Tryz.results44]) | (with_reducible first | refine ag ?_ | refine aW rfl ?_ | refine aK ?_ | refine dc ?_ ?_ | refine aj ?_ | refine am ?_ | refine aF fun K hK=>?_ | refine ax ?_ | refine av ?_ | refine aD ?_ | refine aA ?_) | (with_reducible refine hK _ ?_;clear hK K) | ((with_reducible first | refine aI ?_ ?_ | refine ai ?_ ?_);(· decide)) | ((with_reducible refine ci (fun hc=>?_) (fun hc=>?_)) <;> (try simp only [decide_eq_true_eq,decide_eq_false_iff_not,Bool.not_true,Bool.not_false,Bool.not_eq_true',Bool.not_eq_false'] at hc) <;> (try (exfalso;omega))) | (with_reducible refine ac (h1) ?_) | (with_reducible refine ac (h2) ?_) | (with_reducible refine ac (h3) ?_) | (with_reducible refine ac (h4) ?_) | (with_reducible refine ac (h5) ?_) | (with_reducible refine ac (h6) ?_) | (with_reducible refine ac (h7) ?_) | (with_reducible refine ac (h8) ?_) | (with_reducible refine bg (bN _) ?_))
 all_goals (clear h1 h2 h3 h4 h5 h6 h7 h8;cases f <;> simp_all)
 all_goals omega
mutual
theorem lw : ∀ e,OkA e→mv e
 | .mk k c e v f n ks,h=>ta k c e v f n ks h.2.1 h.2.2.1 h.2.2.2.1 h.2.2.2.2.1 h.2.2.2.2.2.2.1 (up ks h.2.2.2.2.2.2.2)
theorem up : ∀ l,rN l→∀ e ∈ l,mv e
 | [],_=>fun e he=>absurd he List.not_mem_nil
 | a :: l,h=>gg (lw a h.1) (up l h.2)
end
end Go.Proofs.YtkjnkkmokojnpaaGreatDoor

/- The head's example of layer 10 in K: clauses made, refuted. -/
import Derived.Test.YtiiaokjgbjhfhaaGreatDoorZ34
import Derived.Test.YtiiaokjgbjhfhaaGreatDoorZ36
import Derived.Test.YtiiaokjgbjhfhaaGreatDoorZ12
import Derived.Test.YtiiaokjgbjhfhaaGreatDoorZ8
namespace Go.Proofs.YtiiaokjgbjhfhaaGreatDoor
set_option linter.unusedSimpArgs false
set_option linter.unusedVariables false
open Go.RowKit
def cG : Nat → List Nat
 | 0 => [0]
 | 1 => [1,2]
 | 2 => [2]
 | 3 => [1,2]
 | 4 => [1,2,4]
 | 5 => [1,2,4]
 | 6 => [1,2,4]
 | 7 => [2,4,5]
 | 8 => [2,4]
 | 9 => [2]
 | 10 => [2,4]
 | 11 => [2,4,6]
 | 12 => [2,4,6,71,72,73]
 | 13 => [2,4,6,71,72,73]
 | 14 => [2,4,6,8,71,72,73]
 | 15 => [2,4,6,71,72,73]
 | 16 => [2,4,6]
 | 17 => [2,4]
 | _ => []
def cB : Nat → List Nat
 | 0 => [0,1,2]
 | 1 => [0,1,2]
 | 2 => [0,1,2,7]
 | 3 => [7]
 | 4 => [0,1,2]
 | 5 => [0,1,2,8]
 | 6 => [0,1,2,8,9]
 | 7 => [9]
 | 8 => [0,1,2,8]
 | 9 => [0,1,8,34,35,36]
 | 10 => [0,1,8,34,35,36]
 | 11 => [0,1,8,10,11,34,35,36]
 | 12 => [0,1,8,10,11,12,34,35,36]
 | 13 => [0,1,8,10,12,34,35,36,41,42,43]
 | 14 => [0,1,8,10,12,34,35,36,41,42,43]
 | 15 => [0,1,8,10,12,14,34,35,36,41,42,43]
 | 16 => [0,1,8,10,12,34,35,36,41,42,43]
 | 17 => [0,1,8,10,12,34,35,36]
 | 18 => [0,1,8,10,16,17,34,35,36]
 | 19 => [10]
 | 20 => [0,1,8,34,35,36]
 | 21 => [8]
 | 22 => []
 | 23 => []
 | _ => []
def cw : Nat → List Nat
 | 0 => [0,1]
 | 1 => [2,3]
 | 2 => [3,5,6]
 | 3 => [6]
 | 4 => [3,5]
 | 5 => [3,6,7]
 | 6 => [6]
 | 7 => [3,7]
 | 8 => []
 | 9 => [3,7]
 | 10 => [3,7,8]
 | 11 => [3,7,8,38,39,40]
 | 12 => [3,7,8,38,39,40]
 | 13 => [3,7,8,9,10,38,39,40]
 | 14 => [3,7,8,9,10,11,38,39,40]
 | 15 => [9,11]
 | 16 => [3,7,8,10,38,39,40]
 | 17 => [3,7,8,38,39,40]
 | 18 => [3,7,8]
 | _ => []
theorem w20 : IntKind.i64.wrap (((2 : Nat) : Int) + 0) = 2 := rfl
theorem qR : ((2 : Int) ≤ ((3 : Nat) : Int)) = True := by simp
theorem tn2 : (2 : Int).toNat = 2 := rfl
theorem kU : cS 9 = .ifc 49 (.c (.int .i64 9)) := rfl
theorem pR : AFn Tryz.prog 42 [inA 1,.sl [r1f (-1),r1f 1] 2 .none] [] (.c .nilIface) [] := dA 8 m5 (by simp [wkD])
theorem pS : AFn Tryz.prog 42 [inA 1,.sl [r1f 1,r1f 1] 2 .none] [] (.c .nilIface) [] := dA 8 m6 (by simp [wkD])
set_option maxRecDepth 100000 in
set_option maxHeartbeats 8000000 in
theorem qk : AFn Tryz.prog 26 [.agg (fK 1)] [] (.tup [.agg [inA 1,.sl [] 0 .full,.sl [r1f (-1),r1f 1] 2 .none],.c .nilIface]) [] := by
 refine bi [] Tryz.func26 rfl Tryz.ntmps26 (Nat.le_of_ble_eq_true rfl) (Nat.le_of_ble_eq_true rfl) fun w0 G0 B0 Pr hB0 => ?_
 simp only [bu,bf,List.cons_append,List.nil_append]
 repeat' (first | (with_reducible refine hY _ ?_;clear hY Y) | ((with_reducible first | refine aX rfl (aR fun K' hK' => aa ?_) | refine hK' _ (ab fun Y hY => aa ?_) | refine aZ rfl (ab fun Y hY => aa ?_) | refine ab fun Y hY => aa ?_ | refine aR fun K' hK' => aa ?_ | refine ae tk0 cG (ab fun Y hY => aa ?_) | refine aa ?_ | refine aA ?_ | refine aT rfl (aq fun K' hK' => aa ?_) | refine hK' _ _ (ab fun Y hY => aa ?_) | refine aS rfl (ab fun Y hY => aa ?_) | refine aq fun K' hK' => aa ?_ | refine aK ?_);(try clear hK' K');(try dsimp only [aop]);try simp only [go_sem,↓reduceIte,Nat.reduceEqDiff,Nat.reduceLT,Nat.reduceLeDiff,Nat.reduceAdd,Nat.reduceSub,Nat.reduceMul,Nat.reduceBEq,Nat.reduceBNe,Nat.reducePow,Int.reduceToNat,Int.reduceLE,Int.reduceLT,Int.reduceMul,Int.reduceEq,Int.reducePow,Int.reduceAdd,Int.reduceSub,Int.reduceNeg,reduceCtorEq,cG,Tryz.results26,w_1,w_0,eX]) | (with_reducible first | refine av ?_ | refine an rfl ?_ | refine ap ?_ | refine ao ?_ | refine bk ?_ ?_ | refine aO ?_ | refine aN ?_ | refine bj fun K hK => ?_ | refine ay ?_ | refine az ?_ | refine aU ?_ | refine aQ ?_ | refine aC ?_ | refine aD ?_ | refine aF ?_ | refine aj ?_ | refine ax ?_ | refine aP ?_ | refine aE ?_ | refine aB ?_ | refine ag ?_ | refine af ?_ | refine al ?_ | refine bl fun K hK => ?_) | (with_reducible refine hK _ ?_;clear hK K) | (with_reducible refine hK _ _ ?_ ?_;(· kernel_rfl);clear hK K) | ((with_reducible first | refine aJ ?_ ?_ | refine ai ?_ ?_ | refine aG ?_ ?_);(· decide)) | (with_reducible refine ak tk0 cG ?_ ?_;(· kernel_rfl)) | ((with_reducible first | refine am (fun hc => ?_) (fun hc => ?_) | refine aH (fun hc => ?_) (fun hc => ?_)) <;> (try simp only [decide_eq_true_eq,decide_eq_false_iff_not,Bool.not_true,Bool.not_false,Bool.not_eq_true',Bool.not_eq_false'] at hc) <;> (try (exfalso;omega))) | (with_reducible refine aY ?_ ?_;(· (try and_intros) <;> first | omega | assumption | (simp only [List.length_append,List.length_map,List.length_cons,List.length_nil] <;> omega))) | (with_reducible refine au (rl) ?_) | (with_reducible refine au (nj) ?_) | (with_reducible refine au (mt) ?_) | (with_reducible refine cI (cW) ?_) | ((with_reducible refine bV ?_)) | (with_reducible refine au (eI pR ?_) ?_;(· simp [cH])) | (with_reducible refine aI ?_) | fail)
set_option maxRecDepth 100000 in
set_option maxHeartbeats 8000000 in
theorem ql : AFn Tryz.prog 26 [.agg (fK 0)] [] (.tup [.agg [inA 1,.sl [] 0 .full,.sl [r1f 1,r1f 1] 2 .none],.c .nilIface]) [] := by
 refine bi [] Tryz.func26 rfl Tryz.ntmps26 (Nat.le_of_ble_eq_true rfl) (Nat.le_of_ble_eq_true rfl) fun w0 G0 B0 Pr hB0 => ?_
 simp only [bu,bf,List.cons_append,List.nil_append]
 repeat' (first | (with_reducible refine hY _ ?_;clear hY Y) | ((with_reducible first | refine aX rfl (aR fun K' hK' => aa ?_) | refine hK' _ (ab fun Y hY => aa ?_) | refine aZ rfl (ab fun Y hY => aa ?_) | refine ab fun Y hY => aa ?_ | refine aR fun K' hK' => aa ?_ | refine ae tk0 cG (ab fun Y hY => aa ?_) | refine aa ?_ | refine aA ?_ | refine aT rfl (aq fun K' hK' => aa ?_) | refine hK' _ _ (ab fun Y hY => aa ?_) | refine aS rfl (ab fun Y hY => aa ?_) | refine aq fun K' hK' => aa ?_ | refine aK ?_);(try clear hK' K');(try dsimp only [aop]);try simp only [go_sem,↓reduceIte,Nat.reduceEqDiff,Nat.reduceLT,Nat.reduceLeDiff,Nat.reduceAdd,Nat.reduceSub,Nat.reduceMul,Nat.reduceBEq,Nat.reduceBNe,Nat.reducePow,Int.reduceToNat,Int.reduceLE,Int.reduceLT,Int.reduceMul,Int.reduceEq,Int.reducePow,Int.reduceAdd,Int.reduceSub,Int.reduceNeg,reduceCtorEq,cG,Tryz.results26,w_1,w_0,eX]) | (with_reducible first | refine av ?_ | refine an rfl ?_ | refine ap ?_ | refine ao ?_ | refine bk ?_ ?_ | refine aO ?_ | refine aN ?_ | refine bj fun K hK => ?_ | refine ay ?_ | refine az ?_ | refine aU ?_ | refine aQ ?_ | refine aC ?_ | refine aD ?_ | refine aF ?_ | refine aj ?_ | refine ax ?_ | refine aP ?_ | refine aE ?_ | refine aB ?_ | refine ag ?_ | refine af ?_ | refine al ?_ | refine bl fun K hK => ?_) | (with_reducible refine hK _ ?_;clear hK K) | (with_reducible refine hK _ _ ?_ ?_;(· kernel_rfl);clear hK K) | ((with_reducible first | refine aJ ?_ ?_ | refine ai ?_ ?_ | refine aG ?_ ?_);(· decide)) | (with_reducible refine ak tk0 cG ?_ ?_;(· kernel_rfl)) | ((with_reducible first | refine am (fun hc => ?_) (fun hc => ?_) | refine aH (fun hc => ?_) (fun hc => ?_)) <;> (try simp only [decide_eq_true_eq,decide_eq_false_iff_not,Bool.not_true,Bool.not_false,Bool.not_eq_true',Bool.not_eq_false'] at hc) <;> (try (exfalso;omega))) | (with_reducible refine aY ?_ ?_;(· (try and_intros) <;> first | omega | assumption | (simp only [List.length_append,List.length_map,List.length_cons,List.length_nil] <;> omega))) | (with_reducible refine au (rn) ?_) | (with_reducible refine au (nk) ?_) | (with_reducible refine au (mu) ?_) | (with_reducible refine cI (cW) ?_) | ((with_reducible refine bV ?_)) | (with_reducible refine au (eI pS ?_) ?_;(· simp [cH])) | (with_reducible refine aI ?_) | fail)
theorem pT : AFn Tryz.prog 44 [.sl [.sl [r1 (-1),r1 1] 2 .none,.sl [.sl [] 0 .none] 1 .none] 2 .full] [] (.sl [r1 (-1),r1 1,.sl [] 0 .none] 3 .none) [] := jd [[-1],[1]] [[]] (by decide)
theorem pU : AFn Tryz.prog 44 [.sl [.sl [r1 1,r1 1] 2 .none,.sl [.sl [] 0 .none] 1 .none] 2 .full] [] (.sl [r1 1,r1 1,.sl [] 0 .none] 3 .none) [] := jd [[1],[1]] [[]] (by decide)
theorem p8 : AFn Tryz.prog 46 [.sl [r1 (-1),r1 1,.sl [] 0 .none] 3 .none,.fn (.func 47) [] []] [] (.c (.bool true)) [] := p7 [[-1],[1],[]] 47 (fun c => decide (c.length = 0)) jZ (by unfold Lg;simp) fun y _ => qx y
set_option maxRecDepth 100000 in
set_option maxHeartbeats 8000000 in
theorem qY : AFn Tryz.prog 28 [inA 1,.sl [r1 (-1),r1 1] 2 .none,.sl [.sl [] 0 .none] 1 .none] [] (.c .nilIface) [] := by
 have h0 := jZ
 refine bi [] Tryz.func28 rfl Tryz.ntmps28 (Nat.le_of_ble_eq_true rfl) (Nat.le_of_ble_eq_true rfl) fun w0 G0 B0 Pr hB0 => ?_
 simp only [bu,bf,List.cons_append,List.nil_append]
 repeat' (first | (with_reducible refine hY _ ?_;clear hY Y) | ((with_reducible first | refine aX rfl (aR fun K' hK' => aa ?_) | refine hK' _ (ab fun Y hY => aa ?_) | refine aZ rfl (ab fun Y hY => aa ?_) | refine ab fun Y hY => aa ?_ | refine aR fun K' hK' => aa ?_ | refine ae tk0 cB (ab fun Y hY => aa ?_) | refine aa ?_ | refine aA ?_ | refine aT rfl (aq fun K' hK' => aa ?_) | refine hK' _ _ (ab fun Y hY => aa ?_) | refine aS rfl (ab fun Y hY => aa ?_) | refine aq fun K' hK' => aa ?_ | refine aK ?_);(try clear hK' K');(try dsimp only [aop]);try simp only [go_sem,↓reduceIte,Nat.reduceEqDiff,Nat.reduceLT,Nat.reduceLeDiff,Nat.reduceAdd,Nat.reduceSub,Nat.reduceMul,Nat.reduceBEq,Nat.reduceBNe,Nat.reducePow,Int.reduceToNat,Int.reduceLE,Int.reduceLT,Int.reduceMul,Int.reduceEq,Int.reducePow,Int.reduceAdd,Int.reduceSub,Int.reduceNeg,reduceCtorEq,cB,Tryz.results28,w_1,w_0,w_2,w_3,w20,qR,tn2,h0,List.take_succ_cons,List.take_zero]) | (with_reducible first | refine av ?_ | refine an rfl ?_ | refine ap ?_ | refine ao ?_ | refine bk ?_ ?_ | refine aO ?_ | refine aN ?_ | refine bj fun K hK => ?_ | refine ay ?_ | refine az ?_ | refine aU ?_ | refine aQ ?_ | refine aC ?_ | refine aD ?_ | refine aF ?_ | refine aj ?_ | refine ax ?_ | refine aP ?_ | refine aE ?_ | refine aB ?_ | refine ag ?_ | refine af ?_ | refine al ?_ | refine bl fun K hK => ?_) | (with_reducible refine hK _ ?_;clear hK K) | (with_reducible refine hK _ _ ?_ ?_;(· kernel_rfl);clear hK K) | ((with_reducible first | refine aJ ?_ ?_ | refine ai ?_ ?_ | refine aG ?_ ?_);(· decide)) | (with_reducible refine ak tk0 cB ?_ ?_;(· kernel_rfl)) | ((with_reducible first | refine am (fun hc => ?_) (fun hc => ?_) | refine aH (fun hc => ?_) (fun hc => ?_)) <;> (try simp only [decide_eq_true_eq,decide_eq_false_iff_not,Bool.not_true,Bool.not_false,Bool.not_eq_true',Bool.not_eq_false'] at hc) <;> (try (exfalso;omega))) | (with_reducible refine aY ?_ ?_;(· (try and_intros) <;> first | omega | assumption | (simp only [List.length_append,List.length_map,List.length_cons,List.length_nil] <;> omega))) | (with_reducible refine au (m5) ?_) | (with_reducible refine au (pT) ?_) | (with_reducible refine au (pP) ?_) | (with_reducible refine au (nh) ?_) | (with_reducible refine au (p8) ?_) | (with_reducible refine cI (cW) ?_) | ((with_reducible refine bV ?_)) | (with_reducible refine aI ?_) | fail)
set_option maxRecDepth 100000 in
set_option maxHeartbeats 8000000 in
theorem qZ : AFn Tryz.prog 28 [inA 1,.sl [r1 1,r1 1] 2 .none,.sl [.sl [] 0 .none] 1 .none] [] (iM 0 9) [] := by
 have h0 := jZ
 unfold iM
 rw [kU]
 refine bi [] Tryz.func28 rfl Tryz.ntmps28 (Nat.le_of_ble_eq_true rfl) (Nat.le_of_ble_eq_true rfl) fun w0 G0 B0 Pr hB0 => ?_
 simp only [bu,bf,List.cons_append,List.nil_append]
 repeat' (first | (with_reducible refine hY _ ?_;clear hY Y) | ((with_reducible first | refine aX rfl (aR fun K' hK' => aa ?_) | refine hK' _ (ab fun Y hY => aa ?_) | refine aZ rfl (ab fun Y hY => aa ?_) | refine ab fun Y hY => aa ?_ | refine aR fun K' hK' => aa ?_ | refine ae tk0 cB (ab fun Y hY => aa ?_) | refine aa ?_ | refine aA ?_ | refine aT rfl (aq fun K' hK' => aa ?_) | refine hK' _ _ (ab fun Y hY => aa ?_) | refine aS rfl (ab fun Y hY => aa ?_) | refine aq fun K' hK' => aa ?_ | refine aK ?_);(try clear hK' K');(try dsimp only [aop]);try simp only [go_sem,↓reduceIte,Nat.reduceEqDiff,Nat.reduceLT,Nat.reduceLeDiff,Nat.reduceAdd,Nat.reduceSub,Nat.reduceMul,Nat.reduceBEq,Nat.reduceBNe,Nat.reducePow,Int.reduceToNat,Int.reduceLE,Int.reduceLT,Int.reduceMul,Int.reduceEq,Int.reducePow,Int.reduceAdd,Int.reduceSub,Int.reduceNeg,reduceCtorEq,cB,Tryz.results28,w_1,w_0,w_2,w_3,w20,qR,tn2,h0,List.take_succ_cons,List.take_zero]) | (with_reducible first | refine av ?_ | refine an rfl ?_ | refine ap ?_ | refine ao ?_ | refine bk ?_ ?_ | refine aO ?_ | refine aN ?_ | refine bj fun K hK => ?_ | refine ay ?_ | refine az ?_ | refine aU ?_ | refine aQ ?_ | refine aC ?_ | refine aD ?_ | refine aF ?_ | refine aj ?_ | refine ax ?_ | refine aP ?_ | refine aE ?_ | refine aB ?_ | refine ag ?_ | refine af ?_ | refine al ?_ | refine bl fun K hK => ?_) | (with_reducible refine hK _ ?_;clear hK K) | (with_reducible refine hK _ _ ?_ ?_;(· kernel_rfl);clear hK K) | ((with_reducible first | refine aJ ?_ ?_ | refine ai ?_ ?_ | refine aG ?_ ?_);(· decide)) | (with_reducible refine ak tk0 cB ?_ ?_;(· kernel_rfl)) | ((with_reducible first | refine am (fun hc => ?_) (fun hc => ?_) | refine aH (fun hc => ?_) (fun hc => ?_)) <;> (try simp only [decide_eq_true_eq,decide_eq_false_iff_not,Bool.not_true,Bool.not_false,Bool.not_eq_true',Bool.not_eq_false'] at hc) <;> (try (exfalso;omega))) | (with_reducible refine aY ?_ ?_;(· (try and_intros) <;> first | omega | assumption | (simp only [List.length_append,List.length_map,List.length_cons,List.length_nil] <;> omega))) | (with_reducible refine au (m6) ?_) | (with_reducible refine au (pU) ?_) | (with_reducible refine au (pQ) ?_) | (with_reducible refine au (ni) ?_) | (with_reducible refine cI (cW) ?_) | ((with_reducible refine bV ?_)) | (with_reducible refine aI ?_) | fail)
abbrev cE : List AV := [.sl [] 0 .full,.sl [.sl [] 0 .full] 1 .full]
set_option maxRecDepth 100000 in
set_option maxHeartbeats 8000000 in
theorem pN : AFn Tryz.prog 11 [.agg (fK 1),.agg cE] [] (.c .nilIface) [] := by
 refine bi [] Tryz.func11 rfl Tryz.ntmps11 (Nat.le_of_ble_eq_true rfl) (Nat.le_of_ble_eq_true rfl) fun w0 G0 B0 Pr hB0 => ?_
 simp only [bu,bf,List.cons_append,List.nil_append]
 repeat' (first | (with_reducible refine hY _ ?_;clear hY Y) | ((with_reducible first | refine aX rfl (aR fun K' hK' => aa ?_) | refine hK' _ (ab fun Y hY => aa ?_) | refine aZ rfl (ab fun Y hY => aa ?_) | refine ab fun Y hY => aa ?_ | refine aR fun K' hK' => aa ?_ | refine ae tk0 cw (ab fun Y hY => aa ?_) | refine aa ?_ | refine aA ?_ | refine aT rfl (aq fun K' hK' => aa ?_) | refine hK' _ _ (ab fun Y hY => aa ?_) | refine aS rfl (ab fun Y hY => aa ?_) | refine aq fun K' hK' => aa ?_ | refine aK ?_);(try clear hK' K');(try dsimp only [aop]);try simp only [go_sem,↓reduceIte,Nat.reduceEqDiff,Nat.reduceLT,Nat.reduceLeDiff,Nat.reduceAdd,Nat.reduceSub,Nat.reduceMul,Nat.reduceBEq,Nat.reduceBNe,Nat.reducePow,Int.reduceToNat,Int.reduceLE,Int.reduceLT,Int.reduceMul,Int.reduceEq,Int.reducePow,Int.reduceAdd,Int.reduceSub,Int.reduceNeg,reduceCtorEq,cw,Tryz.results11,w_1,w_0]) | (with_reducible first | refine av ?_ | refine an rfl ?_ | refine ap ?_ | refine ao ?_ | refine bk ?_ ?_ | refine aO ?_ | refine aN ?_ | refine bj fun K hK => ?_ | refine ay ?_ | refine az ?_ | refine aU ?_ | refine aQ ?_ | refine aC ?_ | refine aD ?_ | refine aF ?_ | refine aj ?_ | refine ax ?_ | refine aP ?_ | refine aE ?_ | refine aB ?_ | refine ag ?_ | refine af ?_ | refine al ?_ | refine bl fun K hK => ?_) | (with_reducible refine hK _ ?_;clear hK K) | (with_reducible refine hK _ _ ?_ ?_;(· kernel_rfl);clear hK K) | ((with_reducible first | refine aJ ?_ ?_ | refine ai ?_ ?_ | refine aG ?_ ?_);(· decide)) | (with_reducible refine ak tk0 cw ?_ ?_;(· kernel_rfl)) | ((with_reducible first | refine am (fun hc => ?_) (fun hc => ?_) | refine aH (fun hc => ?_) (fun hc => ?_)) <;> (try simp only [decide_eq_true_eq,decide_eq_false_iff_not,Bool.not_true,Bool.not_false,Bool.not_eq_true',Bool.not_eq_false'] at hc) <;> (try (exfalso;omega))) | (with_reducible refine aY ?_ ?_;(· (try and_intros) <;> first | omega | assumption | (simp only [List.length_append,List.length_map,List.length_cons,List.length_nil] <;> omega))) | (with_reducible refine au (qq) ?_) | (with_reducible refine au (qk) ?_) | (with_reducible refine cI (cW) ?_) | ((with_reducible refine bV ?_)) | (with_reducible refine au (dA 8 qY ?_) ?_;(· simp [wkD])) | (with_reducible refine aI ?_) | fail)
set_option maxRecDepth 100000 in
set_option maxHeartbeats 8000000 in
theorem pO : AFn Tryz.prog 11 [.agg (fK 0),.agg cE] [] (iM 0 9) [] := by
 have hr := qZ
 unfold iM at hr ⊢
 rw [kU] at hr ⊢
 refine bi [] Tryz.func11 rfl Tryz.ntmps11 (Nat.le_of_ble_eq_true rfl) (Nat.le_of_ble_eq_true rfl) fun w0 G0 B0 Pr hB0 => ?_
 simp only [bu,bf,List.cons_append,List.nil_append]
 repeat' (first | (with_reducible refine hY _ ?_;clear hY Y) | ((with_reducible first | refine aX rfl (aR fun K' hK' => aa ?_) | refine hK' _ (ab fun Y hY => aa ?_) | refine aZ rfl (ab fun Y hY => aa ?_) | refine ab fun Y hY => aa ?_ | refine aR fun K' hK' => aa ?_ | refine ae tk0 cw (ab fun Y hY => aa ?_) | refine aa ?_ | refine aA ?_ | refine aT rfl (aq fun K' hK' => aa ?_) | refine hK' _ _ (ab fun Y hY => aa ?_) | refine aS rfl (ab fun Y hY => aa ?_) | refine aq fun K' hK' => aa ?_ | refine aK ?_);(try clear hK' K');(try dsimp only [aop]);try simp only [go_sem,↓reduceIte,Nat.reduceEqDiff,Nat.reduceLT,Nat.reduceLeDiff,Nat.reduceAdd,Nat.reduceSub,Nat.reduceMul,Nat.reduceBEq,Nat.reduceBNe,Nat.reducePow,Int.reduceToNat,Int.reduceLE,Int.reduceLT,Int.reduceMul,Int.reduceEq,Int.reducePow,Int.reduceAdd,Int.reduceSub,Int.reduceNeg,reduceCtorEq,cw,Tryz.results11,w_1,w_0]) | (with_reducible first | refine av ?_ | refine an rfl ?_ | refine ap ?_ | refine ao ?_ | refine bk ?_ ?_ | refine aO ?_ | refine aN ?_ | refine bj fun K hK => ?_ | refine ay ?_ | refine az ?_ | refine aU ?_ | refine aQ ?_ | refine aC ?_ | refine aD ?_ | refine aF ?_ | refine aj ?_ | refine ax ?_ | refine aP ?_ | refine aE ?_ | refine aB ?_ | refine ag ?_ | refine af ?_ | refine al ?_ | refine bl fun K hK => ?_) | (with_reducible refine hK _ ?_;clear hK K) | (with_reducible refine hK _ _ ?_ ?_;(· kernel_rfl);clear hK K) | ((with_reducible first | refine aJ ?_ ?_ | refine ai ?_ ?_ | refine aG ?_ ?_);(· decide)) | (with_reducible refine ak tk0 cw ?_ ?_;(· kernel_rfl)) | ((with_reducible first | refine am (fun hc => ?_) (fun hc => ?_) | refine aH (fun hc => ?_) (fun hc => ?_)) <;> (try simp only [decide_eq_true_eq,decide_eq_false_iff_not,Bool.not_true,Bool.not_false,Bool.not_eq_true',Bool.not_eq_false'] at hc) <;> (try (exfalso;omega))) | (with_reducible refine aY ?_ ?_;(· (try and_intros) <;> first | omega | assumption | (simp only [List.length_append,List.length_map,List.length_cons,List.length_nil] <;> omega))) | (with_reducible refine au (qr) ?_) | (with_reducible refine au (ql) ?_) | (with_reducible refine cI (cW) ?_) | ((with_reducible refine bV ?_)) | (with_reducible refine au (dA 8 hr ?_) ?_;(· simp [wkD])) | (with_reducible refine aI ?_) | fail)
end Go.Proofs.YtiiaokjgbjhfhaaGreatDoor

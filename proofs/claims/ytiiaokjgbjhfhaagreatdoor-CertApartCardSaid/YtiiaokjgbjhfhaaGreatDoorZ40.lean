/- CertApart in K: whatever the forms, the literals and the values, true. -/
import Derived.Test.YtiiaokjgbjhfhaaGreatDoorZ39
namespace Go.Proofs.YtiiaokjgbjhfhaaGreatDoor
set_option linter.unusedSimpArgs false
set_option linter.unusedVariables false
open Go.RowKit
theorem lI : (true == true) = true := rfl
theorem lH : (true == false) = false := rfl
theorem lG : (false == true) = false := rfl
theorem lF : (false == false) = true := rfl
set_option maxRecDepth 100000 in
theorem hE (a b : Bool) : ∀ w,(((pure () : Sem Unit) >>= fun _ => binOp .eql 4 (.bool a) (.bool b)) : Sem Value).run Tryz.prog w = .ok (.bool (a == b)) w := fun w => by
 have ht := Tryz.underlying4
 have h : ∀ d : Nat,(Op.equalIn (d + 2) 4 (.bool a) (.bool b)).run Tryz.prog w = .ok (a == b) w := fun d => by
  simp [Op.equalIn,run_underlying ht]
 have h2 : (binOp .eql 4 (.bool a) (.bool b)).run Tryz.prog w = .ok (.bool (a == b)) w := by
  simp only [binOp]
  simp [Op.equal,Op.maxDepth,h 9998]
 rw [Sem.run_bind]
 exact h2
def ah : Nat → List Nat
 | 0 => [0,1,2]
 | 1 => [0,1,2]
 | 2 => [0,1,2,7]
 | 3 => [7]
 | 4 => [0,1,2,7]
 | 5 => [0,1,2,7,8,9]
 | 6 => [7]
 | 7 => [0,1,2,7,8]
 | 8 => []
 | 9 => [0,1,2,7,8]
 | 10 => [0,1,2,7,8,10]
 | 11 => [0,1,2,7,8,10]
 | 12 => [0,1,2,7,8,10]
 | 13 => [0,1,2,7,8,10,11]
 | 14 => [0,1,2,7,8,10,11]
 | 15 => [0,1,2,7,8,10,11]
 | 16 => [0,1,2,7,8,10,12,13]
 | 17 => [0,1,2,7,8,10,12,13,14,15]
 | 18 => [0,1,2,7,8,10,12,14]
 | 19 => [0,1,2,7,8,10,14,16]
 | 20 => []
 | 21 => [7]
 | _ => []
set_option maxRecDepth 100000 in
set_option maxHeartbeats 16000000 in
theorem kh (ls : List Ln) (zs vs : List Int) (hl : Lg ls) (hz : Lg zs) : AFn Tryz.prog 4 [eR ls,zsA zs,zsA vs] [] (.c (.bool true)) [] := by
 by_cases h1 : 200 < ls.length
 ·have h1' : ((200 : Int) < (ls.length : Int)) = True := eq_true (by omega)
  refine bi [] Tryz.func4 rfl Tryz.ntmps4 (Nat.le_of_ble_eq_true rfl) (Nat.le_of_ble_eq_true rfl) fun w0 G0 B0 Pr hB0 => ?_
  simp only [bu,bf,List.cons_append,List.nil_append]
  repeat' (first | (with_reducible refine hY _ ?_;clear hY Y) | ((with_reducible first | refine aX rfl (aR fun K' hK' => aa ?_) | refine hK' _ (ab fun Y hY => aa ?_) | refine aZ rfl (ab fun Y hY => aa ?_) | refine ab fun Y hY => aa ?_ | refine aR fun K' hK' => aa ?_ | refine ae tk0 ah (ab fun Y hY => aa ?_) | refine aa ?_ | refine aA ?_ | refine aT rfl (aq fun K' hK' => aa ?_) | refine hK' _ _ (ab fun Y hY => aa ?_) | refine aS rfl (ab fun Y hY => aa ?_) | refine aq fun K' hK' => aa ?_ | refine aK ?_);(try clear hK' K');(try dsimp only [aop]);try simp only [go_sem,↓reduceIte,Nat.reduceEqDiff,Nat.reduceLT,Nat.reduceLeDiff,Nat.reduceAdd,Nat.reduceSub,Nat.reduceMul,Nat.reduceBEq,Nat.reduceBNe,Nat.reducePow,Int.reduceToNat,Int.reduceLE,Int.reduceLT,Int.reduceMul,Int.reduceEq,Int.reducePow,Int.reduceAdd,Int.reduceSub,Int.reduceNeg,reduceCtorEq,ah,Tryz.results4,h1']) | (with_reducible first | refine av ?_ | refine an rfl ?_ | refine ap ?_ | refine ao ?_ | refine bk ?_ ?_ | refine aO ?_ | refine aN ?_ | refine bj fun K hK => ?_ | refine ay ?_ | refine az ?_ | refine aU ?_ | refine aQ ?_ | refine aC ?_ | refine aD ?_ | refine aF ?_ | refine aj ?_ | refine ax ?_ | refine aP ?_ | refine aE ?_ | refine aB ?_ | refine ag ?_ | refine af ?_ | refine al ?_ | refine bl fun K hK => ?_) | (with_reducible refine hK _ ?_;clear hK K) | (with_reducible refine hK _ _ ?_ ?_;(· kernel_rfl);clear hK K) | ((with_reducible first | refine aJ ?_ ?_ | refine ai ?_ ?_ | refine aG ?_ ?_);(· decide)) | (with_reducible refine ak tk0 ah ?_ ?_;(· kernel_rfl)) | ((with_reducible first | refine am (fun hc => ?_) (fun hc => ?_) | refine aH (fun hc => ?_) (fun hc => ?_)) <;> (try simp only [decide_eq_true_eq,decide_eq_false_iff_not,Bool.not_true,Bool.not_false,Bool.not_eq_true',Bool.not_eq_false'] at hc) <;> (try (exfalso;omega))) | (with_reducible refine aY ?_ ?_;(· (try and_intros) <;> first | omega | assumption | (simp only [List.length_append,List.length_map,List.length_cons,List.length_nil] <;> omega))) | (with_reducible refine au (eH) ?_) | (with_reducible refine aI ?_) | fail)
 have h1' : ((200 : Int) < (ls.length : Int)) = False := eq_false (by omega)
 by_cases h2 : 1000 < zs.length
 ·have h2' : ((1000 : Int) < (zs.length : Int)) = True := eq_true (by omega)
  refine bi [] Tryz.func4 rfl Tryz.ntmps4 (Nat.le_of_ble_eq_true rfl) (Nat.le_of_ble_eq_true rfl) fun w0 G0 B0 Pr hB0 => ?_
  simp only [bu,bf,List.cons_append,List.nil_append]
  repeat' (first | (with_reducible refine hY _ ?_;clear hY Y) | ((with_reducible first | refine aX rfl (aR fun K' hK' => aa ?_) | refine hK' _ (ab fun Y hY => aa ?_) | refine aZ rfl (ab fun Y hY => aa ?_) | refine ab fun Y hY => aa ?_ | refine aR fun K' hK' => aa ?_ | refine ae tk0 ah (ab fun Y hY => aa ?_) | refine aa ?_ | refine aA ?_ | refine aT rfl (aq fun K' hK' => aa ?_) | refine hK' _ _ (ab fun Y hY => aa ?_) | refine aS rfl (ab fun Y hY => aa ?_) | refine aq fun K' hK' => aa ?_ | refine aK ?_);(try clear hK' K');(try dsimp only [aop]);try simp only [go_sem,↓reduceIte,Nat.reduceEqDiff,Nat.reduceLT,Nat.reduceLeDiff,Nat.reduceAdd,Nat.reduceSub,Nat.reduceMul,Nat.reduceBEq,Nat.reduceBNe,Nat.reducePow,Int.reduceToNat,Int.reduceLE,Int.reduceLT,Int.reduceMul,Int.reduceEq,Int.reducePow,Int.reduceAdd,Int.reduceSub,Int.reduceNeg,reduceCtorEq,ah,Tryz.results4,h1',h2']) | (with_reducible first | refine av ?_ | refine an rfl ?_ | refine ap ?_ | refine ao ?_ | refine bk ?_ ?_ | refine aO ?_ | refine aN ?_ | refine bj fun K hK => ?_ | refine ay ?_ | refine az ?_ | refine aU ?_ | refine aQ ?_ | refine aC ?_ | refine aD ?_ | refine aF ?_ | refine aj ?_ | refine ax ?_ | refine aP ?_ | refine aE ?_ | refine aB ?_ | refine ag ?_ | refine af ?_ | refine al ?_ | refine bl fun K hK => ?_) | (with_reducible refine hK _ ?_;clear hK K) | (with_reducible refine hK _ _ ?_ ?_;(· kernel_rfl);clear hK K) | ((with_reducible first | refine aJ ?_ ?_ | refine ai ?_ ?_ | refine aG ?_ ?_);(· decide)) | (with_reducible refine ak tk0 ah ?_ ?_;(· kernel_rfl)) | ((with_reducible first | refine am (fun hc => ?_) (fun hc => ?_) | refine aH (fun hc => ?_) (fun hc => ?_)) <;> (try simp only [decide_eq_true_eq,decide_eq_false_iff_not,Bool.not_true,Bool.not_false,Bool.not_eq_true',Bool.not_eq_false'] at hc) <;> (try (exfalso;omega))) | (with_reducible refine aY ?_ ?_;(· (try and_intros) <;> first | omega | assumption | (simp only [List.length_append,List.length_map,List.length_cons,List.length_nil] <;> omega))) | (with_reducible refine au (eH) ?_) | (with_reducible refine aI ?_) | fail)
 have h2' : ((1000 : Int) < (zs.length : Int)) = False := eq_false (by omega)
 have hk := iG ls zs (by omega) (by omega) _ rfl
 rcases gX ls zs with h0 | h0 | h0
 rotate_left
 ·rw [h0,jX] at hk
  refine bi [] Tryz.func4 rfl Tryz.ntmps4 (Nat.le_of_ble_eq_true rfl) (Nat.le_of_ble_eq_true rfl) fun w0 G0 B0 Pr hB0 => ?_
  simp only [bu,bf,List.cons_append,List.nil_append]
  repeat' (first | (with_reducible refine hY _ ?_;clear hY Y) | ((with_reducible first | refine aX rfl (aR fun K' hK' => aa ?_) | refine hK' _ (ab fun Y hY => aa ?_) | refine aZ rfl (ab fun Y hY => aa ?_) | refine ab fun Y hY => aa ?_ | refine aR fun K' hK' => aa ?_ | refine ae tk0 ah (ab fun Y hY => aa ?_) | refine aa ?_ | refine aA ?_ | refine aT rfl (aq fun K' hK' => aa ?_) | refine hK' _ _ (ab fun Y hY => aa ?_) | refine aS rfl (ab fun Y hY => aa ?_) | refine aq fun K' hK' => aa ?_ | refine aK ?_);(try clear hK' K');(try dsimp only [aop]);try simp only [go_sem,↓reduceIte,Nat.reduceEqDiff,Nat.reduceLT,Nat.reduceLeDiff,Nat.reduceAdd,Nat.reduceSub,Nat.reduceMul,Nat.reduceBEq,Nat.reduceBNe,Nat.reducePow,Int.reduceToNat,Int.reduceLE,Int.reduceLT,Int.reduceMul,Int.reduceEq,Int.reducePow,Int.reduceAdd,Int.reduceSub,Int.reduceNeg,reduceCtorEq,ah,Tryz.results4,h1',h2']) | (with_reducible first | refine av ?_ | refine an rfl ?_ | refine ap ?_ | refine ao ?_ | refine bk ?_ ?_ | refine aO ?_ | refine aN ?_ | refine bj fun K hK => ?_ | refine ay ?_ | refine az ?_ | refine aU ?_ | refine aQ ?_ | refine aC ?_ | refine aD ?_ | refine aF ?_ | refine aj ?_ | refine ax ?_ | refine aP ?_ | refine aE ?_ | refine aB ?_ | refine ag ?_ | refine af ?_ | refine al ?_ | refine bl fun K hK => ?_) | (with_reducible refine hK _ ?_;clear hK K) | (with_reducible refine hK _ _ ?_ ?_;(· kernel_rfl);clear hK K) | ((with_reducible first | refine aJ ?_ ?_ | refine ai ?_ ?_ | refine aG ?_ ?_);(· decide)) | (with_reducible refine ak tk0 ah ?_ ?_;(· kernel_rfl)) | ((with_reducible first | refine am (fun hc => ?_) (fun hc => ?_) | refine aH (fun hc => ?_) (fun hc => ?_)) <;> (try simp only [decide_eq_true_eq,decide_eq_false_iff_not,Bool.not_true,Bool.not_false,Bool.not_eq_true',Bool.not_eq_false'] at hc) <;> (try (exfalso;omega))) | (with_reducible refine aY ?_ ?_;(· (try and_intros) <;> first | omega | assumption | (simp only [List.length_append,List.length_map,List.length_cons,List.length_nil] <;> omega))) | (with_reducible refine au (eH) ?_) | (with_reducible refine au (hk) ?_) | (with_reducible refine cI (cW) ?_) | (with_reducible refine aI ?_) | fail)
 ·rw [h0,hT] at hk
  refine bi [] Tryz.func4 rfl Tryz.ntmps4 (Nat.le_of_ble_eq_true rfl) (Nat.le_of_ble_eq_true rfl) fun w0 G0 B0 Pr hB0 => ?_
  simp only [bu,bf,List.cons_append,List.nil_append]
  repeat' (first | (with_reducible refine hY _ ?_;clear hY Y) | ((with_reducible first | refine aX rfl (aR fun K' hK' => aa ?_) | refine hK' _ (ab fun Y hY => aa ?_) | refine aZ rfl (ab fun Y hY => aa ?_) | refine ab fun Y hY => aa ?_ | refine aR fun K' hK' => aa ?_ | refine ae tk0 ah (ab fun Y hY => aa ?_) | refine aa ?_ | refine aA ?_ | refine aT rfl (aq fun K' hK' => aa ?_) | refine hK' _ _ (ab fun Y hY => aa ?_) | refine aS rfl (ab fun Y hY => aa ?_) | refine aq fun K' hK' => aa ?_ | refine aK ?_);(try clear hK' K');(try dsimp only [aop]);try simp only [go_sem,↓reduceIte,Nat.reduceEqDiff,Nat.reduceLT,Nat.reduceLeDiff,Nat.reduceAdd,Nat.reduceSub,Nat.reduceMul,Nat.reduceBEq,Nat.reduceBNe,Nat.reducePow,Int.reduceToNat,Int.reduceLE,Int.reduceLT,Int.reduceMul,Int.reduceEq,Int.reducePow,Int.reduceAdd,Int.reduceSub,Int.reduceNeg,reduceCtorEq,ah,Tryz.results4,h1',h2']) | (with_reducible first | refine av ?_ | refine an rfl ?_ | refine ap ?_ | refine ao ?_ | refine bk ?_ ?_ | refine aO ?_ | refine aN ?_ | refine bj fun K hK => ?_ | refine ay ?_ | refine az ?_ | refine aU ?_ | refine aQ ?_ | refine aC ?_ | refine aD ?_ | refine aF ?_ | refine aj ?_ | refine ax ?_ | refine aP ?_ | refine aE ?_ | refine aB ?_ | refine ag ?_ | refine af ?_ | refine al ?_ | refine bl fun K hK => ?_) | (with_reducible refine hK _ ?_;clear hK K) | (with_reducible refine hK _ _ ?_ ?_;(· kernel_rfl);clear hK K) | ((with_reducible first | refine aJ ?_ ?_ | refine ai ?_ ?_ | refine aG ?_ ?_);(· decide)) | (with_reducible refine ak tk0 ah ?_ ?_;(· kernel_rfl)) | ((with_reducible first | refine am (fun hc => ?_) (fun hc => ?_) | refine aH (fun hc => ?_) (fun hc => ?_)) <;> (try simp only [decide_eq_true_eq,decide_eq_false_iff_not,Bool.not_true,Bool.not_false,Bool.not_eq_true',Bool.not_eq_false'] at hc) <;> (try (exfalso;omega))) | (with_reducible refine aY ?_ ?_;(· (try and_intros) <;> first | omega | assumption | (simp only [List.length_append,List.length_map,List.length_cons,List.length_nil] <;> omega))) | (with_reducible refine au (eH) ?_) | (with_reducible refine au (hk) ?_) | (with_reducible refine cI (cW) ?_) | (with_reducible refine aI ?_) | fail)
 obtain ⟨ha,hb,hc⟩ := kv h0
 have hone : ∀ z ∈ zs,(dk ls z).1 = 0 := by
  have hF : ∀ (zs : List Int) (out : List Ln),(dG ls zs out).1 = 0 → ∀ z ∈ zs,(dk ls z).1 = 0 := by
   intro zs
   induction zs with
   | nil => intro out _ z hz;cases hz
   | cons y r ih =>
    intro out h z hz
    unfold dG at h
    split at h
    ·rename_i e
     rcases List.mem_cons.1 hz with rfl | hz
     ·exact e
     ·exact ih _ h z hz
    ·rename_i e
     exact absurd h e
  have h0' := h0
  unfold dX at h0'
  split at h0'
  ·cases h0'
  ·split at h0'
   ·cases h0'
   ·exact hF zs [] h0'
 generalize hq : dX ls zs = q at *
 obtain ⟨e,out⟩ := q
 simp only at h0 hc
 subst h0
 rw [jW] at hk
 have hol : out.length = zs.length := by rw [hc,List.length_map]
 have hoat : ∀ k (h : k < zs.length) (h' : k < out.length),out[k] = (dk ls zs[k]).2 := fun k h h' => by
  subst hc
  rw [List.getElem_map]
 rw [hol] at hk
 clear hc hq
 refine bi [] Tryz.func4 rfl Tryz.ntmps4 (Nat.le_of_ble_eq_true rfl) (Nat.le_of_ble_eq_true rfl) fun w0 G0 B0 Pr hB0 => ?_
 simp only [bu,bf,List.cons_append,List.nil_append]
 repeat' (first | (with_reducible refine hY _ ?_;clear hY Y) | ((with_reducible first | refine aX rfl (aR fun K' hK' => aa ?_) | refine hK' _ (ab fun Y hY => aa ?_) | refine aZ rfl (ab fun Y hY => aa ?_) | refine ab fun Y hY => aa ?_ | refine aR fun K' hK' => aa ?_ | refine ae tk0 ah (ab fun Y hY => aa ?_) | refine aa ?_ | refine aA ?_ | refine aT rfl (aq fun K' hK' => aa ?_) | refine hK' _ _ (ab fun Y hY => aa ?_) | refine aS rfl (ab fun Y hY => aa ?_) | refine aq fun K' hK' => aa ?_ | refine aK ?_);(try clear hK' K');(try dsimp only [aop]);try simp only [go_sem,↓reduceIte,Nat.reduceEqDiff,Nat.reduceLT,Nat.reduceLeDiff,Nat.reduceAdd,Nat.reduceSub,Nat.reduceMul,Nat.reduceBEq,Nat.reduceBNe,Nat.reducePow,Int.reduceToNat,Int.reduceLE,Int.reduceLT,Int.reduceMul,Int.reduceEq,Int.reducePow,Int.reduceAdd,Int.reduceSub,Int.reduceNeg,reduceCtorEq,ah,Tryz.results4,h1',h2']) | (with_reducible first | refine av ?_ | refine an rfl ?_ | refine ap ?_ | refine ao ?_ | refine bk ?_ ?_ | refine aO ?_ | refine aN ?_ | refine bj fun K hK => ?_ | refine ay ?_ | refine az ?_ | refine aU ?_ | refine aQ ?_ | refine aC ?_ | refine aD ?_ | refine aF ?_ | refine aj ?_ | refine ax ?_ | refine aP ?_ | refine aE ?_ | refine aB ?_ | refine ag ?_ | refine af ?_ | refine al ?_ | refine bl fun K hK => ?_) | (with_reducible refine hK _ ?_;clear hK K) | (with_reducible refine hK _ _ ?_ ?_;(· kernel_rfl);clear hK K) | ((with_reducible first | refine aJ ?_ ?_ | refine ai ?_ ?_ | refine aG ?_ ?_);(· decide)) | (with_reducible refine ak tk0 ah ?_ ?_;(· kernel_rfl)) | ((with_reducible first | refine am (fun hc => ?_) (fun hc => ?_) | refine aH (fun hc => ?_) (fun hc => ?_)) <;> (try simp only [decide_eq_true_eq,decide_eq_false_iff_not,Bool.not_true,Bool.not_false,Bool.not_eq_true',Bool.not_eq_false'] at hc) <;> (try (exfalso;omega))) | (with_reducible refine aY ?_ ?_;(· (try and_intros) <;> first | omega | assumption | (simp only [List.length_append,List.length_map,List.length_cons,List.length_nil] <;> omega))) | (with_reducible refine au (eH) ?_) | (with_reducible refine au (hk) ?_) | (with_reducible refine cI (cW) ?_) | (with_reducible refine aI ?_) | fail)
 refine cq (α := Nat) (fun k => [(0,eR ls),(1,zsA zs),(2,zsA vs),(7,.c (.bool true)),(8,.sl (out.flatMap lnA) zs.length .none),(10,inA (k : Int))])
  (fun k => k ≤ zs.length) (fun k => zs.length - k) 0 [0,1,2,7,8,10] ?_ (Nat.zero_le _) ?_
 ·simp only [go_sem,↓reduceIte,Nat.reduceEqDiff,Nat.reduceLT,Nat.reduceLeDiff,Nat.reduceAdd,Nat.reduceSub,Nat.reduceMul,Nat.reduceBEq,Nat.reduceBNe,Nat.reducePow,Int.reduceToNat,Int.reduceLE,Int.reduceLT,Int.reduceMul,Int.reduceEq,Int.reducePow,Int.reduceAdd,Int.reduceSub,Int.reduceNeg,reduceCtorEq] <;> rfl
 intro k hkz ih
 by_cases hlt : k < zs.length
 ·have hlt' : ((k : Int) < (zs.length : Int)) = True := eq_true (by omega)
  have hkw := cR (n := k) (by omega)
  have hg0 := mg hlt
  have hfl : (zs.map inA).length = zs.length := List.length_map ..
  have hfl2 := d3 ls
  have hfl3 : (out.flatMap lnA).length = zs.length * 2 := by rw [d3,hol]
  obtain ⟨i,hi,hai,hiz⟩ := g9 (hb _ (List.getElem_mem hlt))
  have hga := gg hi
  have hgo := gg (ls := out) (i := k) (by omega)
  rw [hoat k hlt (by omega)] at hgo
  have hil : ((i : Int) < (ls.length : Int)) = True := eq_true (by omega)
  obtain ⟨hz0,hz1,hz2⟩ := gt (hb _ (List.getElem_mem hlt))
  have hap := mW (hone _ (List.getElem_mem hlt)) hz0 vs
  rw [hai] at hap
  have hva := ky ls[i] vs
  have hvb := ky (dk ls zs[k]).2 vs
  have ih' := ih (k + 1) (by omega) (by omega)
  clear ih hk ha hb hone hoat hai
  generalize (dk ls zs[k]).2 = b at *
  generalize ls[i] = a at *
  generalize dw a vs = VA at *
  generalize dw b vs = VB at *
  obtain ⟨A1,A2⟩ := VA
  obtain ⟨B1,B2⟩ := VB
  simp only at hap hva hvb
  generalize zs[k] = z at *
  by_cases hneg : z < 0
  ·have hneg' : (z < 0) = True := eq_true hneg
   have hpos' : (0 < z) = False := eq_false (by omega)
   rw [if_pos hneg] at hiz
   have hw1 : IntKind.i64.wrap (0 - z) = ((i + 1 : Nat) : Int) := by rw [bQ (by omega) (by omega)];omega
   have hw1' : IntKind.i64.wrap (-z) = ((i + 1 : Nat) : Int) := by rw [bQ (by omega) (by omega)];omega
   have hw2 : IntKind.i64.wrap (((i + 1 : Nat) : Int) - 1) = (i : Int) := by rw [bQ (by omega) (by omega)];omega
   by_cases hA2 : A2 = 0
   ·have hA2' : (A2 = 0) = True := eq_true hA2
    by_cases hB2 : B2 = 0
    ·have hB2' : (B2 = 0) = True := eq_true hB2
     have hap' := hap hA2 hB2
     rw [decide_eq_false (show ¬ 0 < z by omega)] at hap'
     by_cases hA1 : A1 ≤ 0
     ·have hA1' : (A1 ≤ 0) = True := eq_true hA1
      have hB1' : (B1 ≤ 0) = True := by
       rw [decide_eq_true hA1] at hap'
       by_cases hB1 : B1 ≤ 0
       ·exact eq_true hB1
       ·rw [decide_eq_false hB1] at hap';cases hap'
      clear hap hap'
      repeat' (first | (with_reducible refine hY _ ?_;clear hY Y) | ((with_reducible first | refine aX rfl (aR fun K' hK' => aa ?_) | refine hK' _ (ab fun Y hY => aa ?_) | refine aZ rfl (ab fun Y hY => aa ?_) | refine ab fun Y hY => aa ?_ | refine aR fun K' hK' => aa ?_ | refine ae tk0 ah (ab fun Y hY => aa ?_) | refine aa ?_ | refine aA ?_ | refine aT rfl (aq fun K' hK' => aa ?_) | refine hK' _ _ (ab fun Y hY => aa ?_) | refine aS rfl (ab fun Y hY => aa ?_) | refine aq fun K' hK' => aa ?_ | refine aK ?_);(try clear hK' K');(try dsimp only [aop]);try simp only [go_sem,↓reduceIte,Nat.reduceEqDiff,Nat.reduceLT,Nat.reduceLeDiff,Nat.reduceAdd,Nat.reduceSub,Nat.reduceMul,Nat.reduceBEq,Nat.reduceBNe,Nat.reducePow,Int.reduceToNat,Int.reduceLE,Int.reduceLT,Int.reduceMul,Int.reduceEq,Int.reducePow,Int.reduceAdd,Int.reduceSub,Int.reduceNeg,reduceCtorEq,ah,Tryz.results4,hlt',hkw,hg0,hfl,hfl2,hfl3,hga,hgo,hil,hneg',hpos',hw1,hw1',hw2,hA2',hB2',hA1',hB1',lI,lH,lG,lF]) | (with_reducible first | refine av ?_ | refine an rfl ?_ | refine ap ?_ | refine ao ?_ | refine bk ?_ ?_ | refine aO ?_ | refine aN ?_ | refine bj fun K hK => ?_ | refine ay ?_ | refine az ?_ | refine aU ?_ | refine aQ ?_ | refine aC ?_ | refine aD ?_ | refine aF ?_ | refine aj ?_ | refine ax ?_ | refine aP ?_ | refine aE ?_ | refine aB ?_ | refine ag ?_ | refine af ?_ | refine al ?_ | refine bl fun K hK => ?_) | (with_reducible refine hK _ ?_;clear hK K) | (with_reducible refine hK _ _ ?_ ?_;(· kernel_rfl);clear hK K) | ((with_reducible first | refine aJ ?_ ?_ | refine ai ?_ ?_ | refine aG ?_ ?_);(· decide)) | (with_reducible refine ak tk0 ah ?_ ?_;(· kernel_rfl)) | ((with_reducible first | refine am (fun hc => ?_) (fun hc => ?_) | refine aH (fun hc => ?_) (fun hc => ?_)) <;> (try simp only [decide_eq_true_eq,decide_eq_false_iff_not,Bool.not_true,Bool.not_false,Bool.not_eq_true',Bool.not_eq_false'] at hc) <;> (try (exfalso;omega))) | (with_reducible refine aY ?_ ?_;(· (try and_intros) <;> first | omega | assumption | (simp only [List.length_append,List.length_map,List.length_cons,List.length_nil] <;> omega))) | (with_reducible refine au (hva) ?_) | (with_reducible refine au (hvb) ?_) | (with_reducible refine cI (hE _ _) ?_) | (with_reducible refine aI ?_) | fail)
      refine bJ [0,1,2,7,8,10] (by simp only [go_sem,↓reduceIte,Nat.reduceEqDiff,Nat.reduceLT,Nat.reduceLeDiff,Nat.reduceAdd,Nat.reduceSub,Nat.reduceMul,Nat.reduceBEq,Nat.reduceBNe,Nat.reducePow,Int.reduceToNat,Int.reduceLE,Int.reduceLT,Int.reduceMul,Int.reduceEq,Int.reducePow,Int.reduceAdd,Int.reduceSub,Int.reduceNeg,reduceCtorEq];exact rfl) ?_
      exact ih'
     ·have hA1' : (A1 ≤ 0) = False := eq_false hA1
      have hB1' : (B1 ≤ 0) = False := by
       rw [decide_eq_false hA1] at hap'
       by_cases hB1 : B1 ≤ 0
       ·rw [decide_eq_true hB1] at hap';cases hap'
       ·exact eq_false hB1
      clear hap hap'
      repeat' (first | (with_reducible refine hY _ ?_;clear hY Y) | ((with_reducible first | refine aX rfl (aR fun K' hK' => aa ?_) | refine hK' _ (ab fun Y hY => aa ?_) | refine aZ rfl (ab fun Y hY => aa ?_) | refine ab fun Y hY => aa ?_ | refine aR fun K' hK' => aa ?_ | refine ae tk0 ah (ab fun Y hY => aa ?_) | refine aa ?_ | refine aA ?_ | refine aT rfl (aq fun K' hK' => aa ?_) | refine hK' _ _ (ab fun Y hY => aa ?_) | refine aS rfl (ab fun Y hY => aa ?_) | refine aq fun K' hK' => aa ?_ | refine aK ?_);(try clear hK' K');(try dsimp only [aop]);try simp only [go_sem,↓reduceIte,Nat.reduceEqDiff,Nat.reduceLT,Nat.reduceLeDiff,Nat.reduceAdd,Nat.reduceSub,Nat.reduceMul,Nat.reduceBEq,Nat.reduceBNe,Nat.reducePow,Int.reduceToNat,Int.reduceLE,Int.reduceLT,Int.reduceMul,Int.reduceEq,Int.reducePow,Int.reduceAdd,Int.reduceSub,Int.reduceNeg,reduceCtorEq,ah,Tryz.results4,hlt',hkw,hg0,hfl,hfl2,hfl3,hga,hgo,hil,hneg',hpos',hw1,hw1',hw2,hA2',hB2',hA1',hB1',lI,lH,lG,lF]) | (with_reducible first | refine av ?_ | refine an rfl ?_ | refine ap ?_ | refine ao ?_ | refine bk ?_ ?_ | refine aO ?_ | refine aN ?_ | refine bj fun K hK => ?_ | refine ay ?_ | refine az ?_ | refine aU ?_ | refine aQ ?_ | refine aC ?_ | refine aD ?_ | refine aF ?_ | refine aj ?_ | refine ax ?_ | refine aP ?_ | refine aE ?_ | refine aB ?_ | refine ag ?_ | refine af ?_ | refine al ?_ | refine bl fun K hK => ?_) | (with_reducible refine hK _ ?_;clear hK K) | (with_reducible refine hK _ _ ?_ ?_;(· kernel_rfl);clear hK K) | ((with_reducible first | refine aJ ?_ ?_ | refine ai ?_ ?_ | refine aG ?_ ?_);(· decide)) | (with_reducible refine ak tk0 ah ?_ ?_;(· kernel_rfl)) | ((with_reducible first | refine am (fun hc => ?_) (fun hc => ?_) | refine aH (fun hc => ?_) (fun hc => ?_)) <;> (try simp only [decide_eq_true_eq,decide_eq_false_iff_not,Bool.not_true,Bool.not_false,Bool.not_eq_true',Bool.not_eq_false'] at hc) <;> (try (exfalso;omega))) | (with_reducible refine aY ?_ ?_;(· (try and_intros) <;> first | omega | assumption | (simp only [List.length_append,List.length_map,List.length_cons,List.length_nil] <;> omega))) | (with_reducible refine au (hva) ?_) | (with_reducible refine au (hvb) ?_) | (with_reducible refine cI (hE _ _) ?_) | (with_reducible refine aI ?_) | fail)
      refine bJ [0,1,2,7,8,10] (by simp only [go_sem,↓reduceIte,Nat.reduceEqDiff,Nat.reduceLT,Nat.reduceLeDiff,Nat.reduceAdd,Nat.reduceSub,Nat.reduceMul,Nat.reduceBEq,Nat.reduceBNe,Nat.reducePow,Int.reduceToNat,Int.reduceLE,Int.reduceLT,Int.reduceMul,Int.reduceEq,Int.reducePow,Int.reduceAdd,Int.reduceSub,Int.reduceNeg,reduceCtorEq];exact rfl) ?_
      exact ih'
    ·have hB2' : (B2 = 0) = False := eq_false hB2
     clear hap
     repeat' (first | (with_reducible refine hY _ ?_;clear hY Y) | ((with_reducible first | refine aX rfl (aR fun K' hK' => aa ?_) | refine hK' _ (ab fun Y hY => aa ?_) | refine aZ rfl (ab fun Y hY => aa ?_) | refine ab fun Y hY => aa ?_ | refine aR fun K' hK' => aa ?_ | refine ae tk0 ah (ab fun Y hY => aa ?_) | refine aa ?_ | refine aA ?_ | refine aT rfl (aq fun K' hK' => aa ?_) | refine hK' _ _ (ab fun Y hY => aa ?_) | refine aS rfl (ab fun Y hY => aa ?_) | refine aq fun K' hK' => aa ?_ | refine aK ?_);(try clear hK' K');(try dsimp only [aop]);try simp only [go_sem,↓reduceIte,Nat.reduceEqDiff,Nat.reduceLT,Nat.reduceLeDiff,Nat.reduceAdd,Nat.reduceSub,Nat.reduceMul,Nat.reduceBEq,Nat.reduceBNe,Nat.reducePow,Int.reduceToNat,Int.reduceLE,Int.reduceLT,Int.reduceMul,Int.reduceEq,Int.reducePow,Int.reduceAdd,Int.reduceSub,Int.reduceNeg,reduceCtorEq,ah,Tryz.results4,hlt',hkw,hg0,hfl,hfl2,hfl3,hga,hgo,hil,hneg',hpos',hw1,hw1',hw2,hA2',hB2']) | (with_reducible first | refine av ?_ | refine an rfl ?_ | refine ap ?_ | refine ao ?_ | refine bk ?_ ?_ | refine aO ?_ | refine aN ?_ | refine bj fun K hK => ?_ | refine ay ?_ | refine az ?_ | refine aU ?_ | refine aQ ?_ | refine aC ?_ | refine aD ?_ | refine aF ?_ | refine aj ?_ | refine ax ?_ | refine aP ?_ | refine aE ?_ | refine aB ?_ | refine ag ?_ | refine af ?_ | refine al ?_ | refine bl fun K hK => ?_) | (with_reducible refine hK _ ?_;clear hK K) | (with_reducible refine hK _ _ ?_ ?_;(· kernel_rfl);clear hK K) | ((with_reducible first | refine aJ ?_ ?_ | refine ai ?_ ?_ | refine aG ?_ ?_);(· decide)) | (with_reducible refine ak tk0 ah ?_ ?_;(· kernel_rfl)) | ((with_reducible first | refine am (fun hc => ?_) (fun hc => ?_) | refine aH (fun hc => ?_) (fun hc => ?_)) <;> (try simp only [decide_eq_true_eq,decide_eq_false_iff_not,Bool.not_true,Bool.not_false,Bool.not_eq_true',Bool.not_eq_false'] at hc) <;> (try (exfalso;omega))) | (with_reducible refine aY ?_ ?_;(· (try and_intros) <;> first | omega | assumption | (simp only [List.length_append,List.length_map,List.length_cons,List.length_nil] <;> omega))) | (with_reducible refine au (hva) ?_) | (with_reducible refine au (hvb) ?_) | (with_reducible refine aI ?_) | fail)
     refine bJ [0,1,2,7,8,10] (by simp only [go_sem,↓reduceIte,Nat.reduceEqDiff,Nat.reduceLT,Nat.reduceLeDiff,Nat.reduceAdd,Nat.reduceSub,Nat.reduceMul,Nat.reduceBEq,Nat.reduceBNe,Nat.reducePow,Int.reduceToNat,Int.reduceLE,Int.reduceLT,Int.reduceMul,Int.reduceEq,Int.reducePow,Int.reduceAdd,Int.reduceSub,Int.reduceNeg,reduceCtorEq];exact rfl) ?_
     exact ih'
   ·have hA2' : (A2 = 0) = False := eq_false hA2
    clear hap
    repeat' (first | (with_reducible refine hY _ ?_;clear hY Y) | ((with_reducible first | refine aX rfl (aR fun K' hK' => aa ?_) | refine hK' _ (ab fun Y hY => aa ?_) | refine aZ rfl (ab fun Y hY => aa ?_) | refine ab fun Y hY => aa ?_ | refine aR fun K' hK' => aa ?_ | refine ae tk0 ah (ab fun Y hY => aa ?_) | refine aa ?_ | refine aA ?_ | refine aT rfl (aq fun K' hK' => aa ?_) | refine hK' _ _ (ab fun Y hY => aa ?_) | refine aS rfl (ab fun Y hY => aa ?_) | refine aq fun K' hK' => aa ?_ | refine aK ?_);(try clear hK' K');(try dsimp only [aop]);try simp only [go_sem,↓reduceIte,Nat.reduceEqDiff,Nat.reduceLT,Nat.reduceLeDiff,Nat.reduceAdd,Nat.reduceSub,Nat.reduceMul,Nat.reduceBEq,Nat.reduceBNe,Nat.reducePow,Int.reduceToNat,Int.reduceLE,Int.reduceLT,Int.reduceMul,Int.reduceEq,Int.reducePow,Int.reduceAdd,Int.reduceSub,Int.reduceNeg,reduceCtorEq,ah,Tryz.results4,hlt',hkw,hg0,hfl,hfl2,hfl3,hga,hgo,hil,hneg',hpos',hw1,hw1',hw2,hA2']) | (with_reducible first | refine av ?_ | refine an rfl ?_ | refine ap ?_ | refine ao ?_ | refine bk ?_ ?_ | refine aO ?_ | refine aN ?_ | refine bj fun K hK => ?_ | refine ay ?_ | refine az ?_ | refine aU ?_ | refine aQ ?_ | refine aC ?_ | refine aD ?_ | refine aF ?_ | refine aj ?_ | refine ax ?_ | refine aP ?_ | refine aE ?_ | refine aB ?_ | refine ag ?_ | refine af ?_ | refine al ?_ | refine bl fun K hK => ?_) | (with_reducible refine hK _ ?_;clear hK K) | (with_reducible refine hK _ _ ?_ ?_;(· kernel_rfl);clear hK K) | ((with_reducible first | refine aJ ?_ ?_ | refine ai ?_ ?_ | refine aG ?_ ?_);(· decide)) | (with_reducible refine ak tk0 ah ?_ ?_;(· kernel_rfl)) | ((with_reducible first | refine am (fun hc => ?_) (fun hc => ?_) | refine aH (fun hc => ?_) (fun hc => ?_)) <;> (try simp only [decide_eq_true_eq,decide_eq_false_iff_not,Bool.not_true,Bool.not_false,Bool.not_eq_true',Bool.not_eq_false'] at hc) <;> (try (exfalso;omega))) | (with_reducible refine aY ?_ ?_;(· (try and_intros) <;> first | omega | assumption | (simp only [List.length_append,List.length_map,List.length_cons,List.length_nil] <;> omega))) | (with_reducible refine au (hva) ?_) | (with_reducible refine au (hvb) ?_) | (with_reducible refine aI ?_) | fail)
    refine bJ [0,1,2,7,8,10] (by simp only [go_sem,↓reduceIte,Nat.reduceEqDiff,Nat.reduceLT,Nat.reduceLeDiff,Nat.reduceAdd,Nat.reduceSub,Nat.reduceMul,Nat.reduceBEq,Nat.reduceBNe,Nat.reducePow,Int.reduceToNat,Int.reduceLE,Int.reduceLT,Int.reduceMul,Int.reduceEq,Int.reducePow,Int.reduceAdd,Int.reduceSub,Int.reduceNeg,reduceCtorEq];exact rfl) ?_
    exact ih'
  ·have hneg' : (z < 0) = False := eq_false hneg
   have hpos' : (0 < z) = True := eq_true (by omega)
   rw [if_neg hneg] at hiz
   have hw2 : IntKind.i64.wrap (z - 1) = (i : Int) := by rw [bQ (by omega) (by omega)];omega
   by_cases hA2 : A2 = 0
   ·have hA2' : (A2 = 0) = True := eq_true hA2
    by_cases hB2 : B2 = 0
    ·have hB2' : (B2 = 0) = True := eq_true hB2
     have hap' := hap hA2 hB2
     rw [decide_eq_true (show 0 < z by omega)] at hap'
     by_cases hA1 : A1 ≤ 0
     ·have hA1' : (A1 ≤ 0) = True := eq_true hA1
      have hB1' : (B1 ≤ 0) = False := by
       rw [decide_eq_true hA1] at hap'
       by_cases hB1 : B1 ≤ 0
       ·rw [decide_eq_true hB1] at hap';cases hap'
       ·exact eq_false hB1
      clear hap hap'
      repeat' (first | (with_reducible refine hY _ ?_;clear hY Y) | ((with_reducible first | refine aX rfl (aR fun K' hK' => aa ?_) | refine hK' _ (ab fun Y hY => aa ?_) | refine aZ rfl (ab fun Y hY => aa ?_) | refine ab fun Y hY => aa ?_ | refine aR fun K' hK' => aa ?_ | refine ae tk0 ah (ab fun Y hY => aa ?_) | refine aa ?_ | refine aA ?_ | refine aT rfl (aq fun K' hK' => aa ?_) | refine hK' _ _ (ab fun Y hY => aa ?_) | refine aS rfl (ab fun Y hY => aa ?_) | refine aq fun K' hK' => aa ?_ | refine aK ?_);(try clear hK' K');(try dsimp only [aop]);try simp only [go_sem,↓reduceIte,Nat.reduceEqDiff,Nat.reduceLT,Nat.reduceLeDiff,Nat.reduceAdd,Nat.reduceSub,Nat.reduceMul,Nat.reduceBEq,Nat.reduceBNe,Nat.reducePow,Int.reduceToNat,Int.reduceLE,Int.reduceLT,Int.reduceMul,Int.reduceEq,Int.reducePow,Int.reduceAdd,Int.reduceSub,Int.reduceNeg,reduceCtorEq,ah,Tryz.results4,hlt',hkw,hg0,hfl,hfl2,hfl3,hga,hgo,hil,hneg',hpos',hw2,hA2',hB2',hA1',hB1',lI,lH,lG,lF]) | (with_reducible first | refine av ?_ | refine an rfl ?_ | refine ap ?_ | refine ao ?_ | refine bk ?_ ?_ | refine aO ?_ | refine aN ?_ | refine bj fun K hK => ?_ | refine ay ?_ | refine az ?_ | refine aU ?_ | refine aQ ?_ | refine aC ?_ | refine aD ?_ | refine aF ?_ | refine aj ?_ | refine ax ?_ | refine aP ?_ | refine aE ?_ | refine aB ?_ | refine ag ?_ | refine af ?_ | refine al ?_ | refine bl fun K hK => ?_) | (with_reducible refine hK _ ?_;clear hK K) | (with_reducible refine hK _ _ ?_ ?_;(· kernel_rfl);clear hK K) | ((with_reducible first | refine aJ ?_ ?_ | refine ai ?_ ?_ | refine aG ?_ ?_);(· decide)) | (with_reducible refine ak tk0 ah ?_ ?_;(· kernel_rfl)) | ((with_reducible first | refine am (fun hc => ?_) (fun hc => ?_) | refine aH (fun hc => ?_) (fun hc => ?_)) <;> (try simp only [decide_eq_true_eq,decide_eq_false_iff_not,Bool.not_true,Bool.not_false,Bool.not_eq_true',Bool.not_eq_false'] at hc) <;> (try (exfalso;omega))) | (with_reducible refine aY ?_ ?_;(· (try and_intros) <;> first | omega | assumption | (simp only [List.length_append,List.length_map,List.length_cons,List.length_nil] <;> omega))) | (with_reducible refine au (hva) ?_) | (with_reducible refine au (hvb) ?_) | (with_reducible refine cI (hE _ _) ?_) | (with_reducible refine aI ?_) | fail)
      refine bJ [0,1,2,7,8,10] (by simp only [go_sem,↓reduceIte,Nat.reduceEqDiff,Nat.reduceLT,Nat.reduceLeDiff,Nat.reduceAdd,Nat.reduceSub,Nat.reduceMul,Nat.reduceBEq,Nat.reduceBNe,Nat.reducePow,Int.reduceToNat,Int.reduceLE,Int.reduceLT,Int.reduceMul,Int.reduceEq,Int.reducePow,Int.reduceAdd,Int.reduceSub,Int.reduceNeg,reduceCtorEq];exact rfl) ?_
      exact ih'
     ·have hA1' : (A1 ≤ 0) = False := eq_false hA1
      have hB1' : (B1 ≤ 0) = True := by
       rw [decide_eq_false hA1] at hap'
       by_cases hB1 : B1 ≤ 0
       ·exact eq_true hB1
       ·rw [decide_eq_false hB1] at hap';cases hap'
      clear hap hap'
      repeat' (first | (with_reducible refine hY _ ?_;clear hY Y) | ((with_reducible first | refine aX rfl (aR fun K' hK' => aa ?_) | refine hK' _ (ab fun Y hY => aa ?_) | refine aZ rfl (ab fun Y hY => aa ?_) | refine ab fun Y hY => aa ?_ | refine aR fun K' hK' => aa ?_ | refine ae tk0 ah (ab fun Y hY => aa ?_) | refine aa ?_ | refine aA ?_ | refine aT rfl (aq fun K' hK' => aa ?_) | refine hK' _ _ (ab fun Y hY => aa ?_) | refine aS rfl (ab fun Y hY => aa ?_) | refine aq fun K' hK' => aa ?_ | refine aK ?_);(try clear hK' K');(try dsimp only [aop]);try simp only [go_sem,↓reduceIte,Nat.reduceEqDiff,Nat.reduceLT,Nat.reduceLeDiff,Nat.reduceAdd,Nat.reduceSub,Nat.reduceMul,Nat.reduceBEq,Nat.reduceBNe,Nat.reducePow,Int.reduceToNat,Int.reduceLE,Int.reduceLT,Int.reduceMul,Int.reduceEq,Int.reducePow,Int.reduceAdd,Int.reduceSub,Int.reduceNeg,reduceCtorEq,ah,Tryz.results4,hlt',hkw,hg0,hfl,hfl2,hfl3,hga,hgo,hil,hneg',hpos',hw2,hA2',hB2',hA1',hB1',lI,lH,lG,lF]) | (with_reducible first | refine av ?_ | refine an rfl ?_ | refine ap ?_ | refine ao ?_ | refine bk ?_ ?_ | refine aO ?_ | refine aN ?_ | refine bj fun K hK => ?_ | refine ay ?_ | refine az ?_ | refine aU ?_ | refine aQ ?_ | refine aC ?_ | refine aD ?_ | refine aF ?_ | refine aj ?_ | refine ax ?_ | refine aP ?_ | refine aE ?_ | refine aB ?_ | refine ag ?_ | refine af ?_ | refine al ?_ | refine bl fun K hK => ?_) | (with_reducible refine hK _ ?_;clear hK K) | (with_reducible refine hK _ _ ?_ ?_;(· kernel_rfl);clear hK K) | ((with_reducible first | refine aJ ?_ ?_ | refine ai ?_ ?_ | refine aG ?_ ?_);(· decide)) | (with_reducible refine ak tk0 ah ?_ ?_;(· kernel_rfl)) | ((with_reducible first | refine am (fun hc => ?_) (fun hc => ?_) | refine aH (fun hc => ?_) (fun hc => ?_)) <;> (try simp only [decide_eq_true_eq,decide_eq_false_iff_not,Bool.not_true,Bool.not_false,Bool.not_eq_true',Bool.not_eq_false'] at hc) <;> (try (exfalso;omega))) | (with_reducible refine aY ?_ ?_;(· (try and_intros) <;> first | omega | assumption | (simp only [List.length_append,List.length_map,List.length_cons,List.length_nil] <;> omega))) | (with_reducible refine au (hva) ?_) | (with_reducible refine au (hvb) ?_) | (with_reducible refine cI (hE _ _) ?_) | (with_reducible refine aI ?_) | fail)
      refine bJ [0,1,2,7,8,10] (by simp only [go_sem,↓reduceIte,Nat.reduceEqDiff,Nat.reduceLT,Nat.reduceLeDiff,Nat.reduceAdd,Nat.reduceSub,Nat.reduceMul,Nat.reduceBEq,Nat.reduceBNe,Nat.reducePow,Int.reduceToNat,Int.reduceLE,Int.reduceLT,Int.reduceMul,Int.reduceEq,Int.reducePow,Int.reduceAdd,Int.reduceSub,Int.reduceNeg,reduceCtorEq];exact rfl) ?_
      exact ih'
    ·have hB2' : (B2 = 0) = False := eq_false hB2
     clear hap
     repeat' (first | (with_reducible refine hY _ ?_;clear hY Y) | ((with_reducible first | refine aX rfl (aR fun K' hK' => aa ?_) | refine hK' _ (ab fun Y hY => aa ?_) | refine aZ rfl (ab fun Y hY => aa ?_) | refine ab fun Y hY => aa ?_ | refine aR fun K' hK' => aa ?_ | refine ae tk0 ah (ab fun Y hY => aa ?_) | refine aa ?_ | refine aA ?_ | refine aT rfl (aq fun K' hK' => aa ?_) | refine hK' _ _ (ab fun Y hY => aa ?_) | refine aS rfl (ab fun Y hY => aa ?_) | refine aq fun K' hK' => aa ?_ | refine aK ?_);(try clear hK' K');(try dsimp only [aop]);try simp only [go_sem,↓reduceIte,Nat.reduceEqDiff,Nat.reduceLT,Nat.reduceLeDiff,Nat.reduceAdd,Nat.reduceSub,Nat.reduceMul,Nat.reduceBEq,Nat.reduceBNe,Nat.reducePow,Int.reduceToNat,Int.reduceLE,Int.reduceLT,Int.reduceMul,Int.reduceEq,Int.reducePow,Int.reduceAdd,Int.reduceSub,Int.reduceNeg,reduceCtorEq,ah,Tryz.results4,hlt',hkw,hg0,hfl,hfl2,hfl3,hga,hgo,hil,hneg',hpos',hw2,hA2',hB2']) | (with_reducible first | refine av ?_ | refine an rfl ?_ | refine ap ?_ | refine ao ?_ | refine bk ?_ ?_ | refine aO ?_ | refine aN ?_ | refine bj fun K hK => ?_ | refine ay ?_ | refine az ?_ | refine aU ?_ | refine aQ ?_ | refine aC ?_ | refine aD ?_ | refine aF ?_ | refine aj ?_ | refine ax ?_ | refine aP ?_ | refine aE ?_ | refine aB ?_ | refine ag ?_ | refine af ?_ | refine al ?_ | refine bl fun K hK => ?_) | (with_reducible refine hK _ ?_;clear hK K) | (with_reducible refine hK _ _ ?_ ?_;(· kernel_rfl);clear hK K) | ((with_reducible first | refine aJ ?_ ?_ | refine ai ?_ ?_ | refine aG ?_ ?_);(· decide)) | (with_reducible refine ak tk0 ah ?_ ?_;(· kernel_rfl)) | ((with_reducible first | refine am (fun hc => ?_) (fun hc => ?_) | refine aH (fun hc => ?_) (fun hc => ?_)) <;> (try simp only [decide_eq_true_eq,decide_eq_false_iff_not,Bool.not_true,Bool.not_false,Bool.not_eq_true',Bool.not_eq_false'] at hc) <;> (try (exfalso;omega))) | (with_reducible refine aY ?_ ?_;(· (try and_intros) <;> first | omega | assumption | (simp only [List.length_append,List.length_map,List.length_cons,List.length_nil] <;> omega))) | (with_reducible refine au (hva) ?_) | (with_reducible refine au (hvb) ?_) | (with_reducible refine aI ?_) | fail)
     refine bJ [0,1,2,7,8,10] (by simp only [go_sem,↓reduceIte,Nat.reduceEqDiff,Nat.reduceLT,Nat.reduceLeDiff,Nat.reduceAdd,Nat.reduceSub,Nat.reduceMul,Nat.reduceBEq,Nat.reduceBNe,Nat.reducePow,Int.reduceToNat,Int.reduceLE,Int.reduceLT,Int.reduceMul,Int.reduceEq,Int.reducePow,Int.reduceAdd,Int.reduceSub,Int.reduceNeg,reduceCtorEq];exact rfl) ?_
     exact ih'
   ·have hA2' : (A2 = 0) = False := eq_false hA2
    clear hap
    repeat' (first | (with_reducible refine hY _ ?_;clear hY Y) | ((with_reducible first | refine aX rfl (aR fun K' hK' => aa ?_) | refine hK' _ (ab fun Y hY => aa ?_) | refine aZ rfl (ab fun Y hY => aa ?_) | refine ab fun Y hY => aa ?_ | refine aR fun K' hK' => aa ?_ | refine ae tk0 ah (ab fun Y hY => aa ?_) | refine aa ?_ | refine aA ?_ | refine aT rfl (aq fun K' hK' => aa ?_) | refine hK' _ _ (ab fun Y hY => aa ?_) | refine aS rfl (ab fun Y hY => aa ?_) | refine aq fun K' hK' => aa ?_ | refine aK ?_);(try clear hK' K');(try dsimp only [aop]);try simp only [go_sem,↓reduceIte,Nat.reduceEqDiff,Nat.reduceLT,Nat.reduceLeDiff,Nat.reduceAdd,Nat.reduceSub,Nat.reduceMul,Nat.reduceBEq,Nat.reduceBNe,Nat.reducePow,Int.reduceToNat,Int.reduceLE,Int.reduceLT,Int.reduceMul,Int.reduceEq,Int.reducePow,Int.reduceAdd,Int.reduceSub,Int.reduceNeg,reduceCtorEq,ah,Tryz.results4,hlt',hkw,hg0,hfl,hfl2,hfl3,hga,hgo,hil,hneg',hpos',hw2,hA2']) | (with_reducible first | refine av ?_ | refine an rfl ?_ | refine ap ?_ | refine ao ?_ | refine bk ?_ ?_ | refine aO ?_ | refine aN ?_ | refine bj fun K hK => ?_ | refine ay ?_ | refine az ?_ | refine aU ?_ | refine aQ ?_ | refine aC ?_ | refine aD ?_ | refine aF ?_ | refine aj ?_ | refine ax ?_ | refine aP ?_ | refine aE ?_ | refine aB ?_ | refine ag ?_ | refine af ?_ | refine al ?_ | refine bl fun K hK => ?_) | (with_reducible refine hK _ ?_;clear hK K) | (with_reducible refine hK _ _ ?_ ?_;(· kernel_rfl);clear hK K) | ((with_reducible first | refine aJ ?_ ?_ | refine ai ?_ ?_ | refine aG ?_ ?_);(· decide)) | (with_reducible refine ak tk0 ah ?_ ?_;(· kernel_rfl)) | ((with_reducible first | refine am (fun hc => ?_) (fun hc => ?_) | refine aH (fun hc => ?_) (fun hc => ?_)) <;> (try simp only [decide_eq_true_eq,decide_eq_false_iff_not,Bool.not_true,Bool.not_false,Bool.not_eq_true',Bool.not_eq_false'] at hc) <;> (try (exfalso;omega))) | (with_reducible refine aY ?_ ?_;(· (try and_intros) <;> first | omega | assumption | (simp only [List.length_append,List.length_map,List.length_cons,List.length_nil] <;> omega))) | (with_reducible refine au (hva) ?_) | (with_reducible refine au (hvb) ?_) | (with_reducible refine aI ?_) | fail)
    refine bJ [0,1,2,7,8,10] (by simp only [go_sem,↓reduceIte,Nat.reduceEqDiff,Nat.reduceLT,Nat.reduceLeDiff,Nat.reduceAdd,Nat.reduceSub,Nat.reduceMul,Nat.reduceBEq,Nat.reduceBNe,Nat.reducePow,Int.reduceToNat,Int.reduceLE,Int.reduceLT,Int.reduceMul,Int.reduceEq,Int.reducePow,Int.reduceAdd,Int.reduceSub,Int.reduceNeg,reduceCtorEq];exact rfl) ?_
    exact ih'
 ·have hlt' : ((k : Int) < (zs.length : Int)) = False := eq_false (by omega)
  clear ih
  repeat' (first | (with_reducible refine hY _ ?_;clear hY Y) | ((with_reducible first | refine aX rfl (aR fun K' hK' => aa ?_) | refine hK' _ (ab fun Y hY => aa ?_) | refine aZ rfl (ab fun Y hY => aa ?_) | refine ab fun Y hY => aa ?_ | refine aR fun K' hK' => aa ?_ | refine ae tk0 ah (ab fun Y hY => aa ?_) | refine aa ?_ | refine aA ?_ | refine aT rfl (aq fun K' hK' => aa ?_) | refine hK' _ _ (ab fun Y hY => aa ?_) | refine aS rfl (ab fun Y hY => aa ?_) | refine aq fun K' hK' => aa ?_ | refine aK ?_);(try clear hK' K');(try dsimp only [aop]);try simp only [go_sem,↓reduceIte,Nat.reduceEqDiff,Nat.reduceLT,Nat.reduceLeDiff,Nat.reduceAdd,Nat.reduceSub,Nat.reduceMul,Nat.reduceBEq,Nat.reduceBNe,Nat.reducePow,Int.reduceToNat,Int.reduceLE,Int.reduceLT,Int.reduceMul,Int.reduceEq,Int.reducePow,Int.reduceAdd,Int.reduceSub,Int.reduceNeg,reduceCtorEq,ah,Tryz.results4,hlt']) | (with_reducible first | refine av ?_ | refine an rfl ?_ | refine ap ?_ | refine ao ?_ | refine bk ?_ ?_ | refine aO ?_ | refine aN ?_ | refine bj fun K hK => ?_ | refine ay ?_ | refine az ?_ | refine aU ?_ | refine aQ ?_ | refine aC ?_ | refine aD ?_ | refine aF ?_ | refine aj ?_ | refine ax ?_ | refine aP ?_ | refine aE ?_ | refine aB ?_ | refine ag ?_ | refine af ?_ | refine al ?_ | refine bl fun K hK => ?_) | (with_reducible refine hK _ ?_;clear hK K) | (with_reducible refine hK _ _ ?_ ?_;(· kernel_rfl);clear hK K) | ((with_reducible first | refine aJ ?_ ?_ | refine ai ?_ ?_ | refine aG ?_ ?_);(· decide)) | (with_reducible refine ak tk0 ah ?_ ?_;(· kernel_rfl)) | ((with_reducible first | refine am (fun hc => ?_) (fun hc => ?_) | refine aH (fun hc => ?_) (fun hc => ?_)) <;> (try simp only [decide_eq_true_eq,decide_eq_false_iff_not,Bool.not_true,Bool.not_false,Bool.not_eq_true',Bool.not_eq_false'] at hc) <;> (try (exfalso;omega))) | (with_reducible refine aY ?_ ?_;(· (try and_intros) <;> first | omega | assumption | (simp only [List.length_append,List.length_map,List.length_cons,List.length_nil] <;> omega))) | (with_reducible refine aI ?_) | fail)
end Go.Proofs.YtiiaokjgbjhfhaaGreatDoor

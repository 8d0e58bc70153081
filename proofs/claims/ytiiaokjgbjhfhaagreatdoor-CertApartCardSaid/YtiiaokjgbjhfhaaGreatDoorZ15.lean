/- A form's value, the document's way, in K. -/
import Derived.Test.YtiiaokjgbjhfhaaGreatDoorZ14
import Derived.Test.YtiiaokjgbjhfhaaGreatDoorZ0
namespace Go.Proofs.YtiiaokjgbjhfhaaGreatDoor
set_option linter.unusedSimpArgs false
set_option linter.unusedVariables false
open Go.RowKit
def ofN (vs : List Int) (v : Int) : Int := if v < (vs.length : Int) then vs.getD v.toNat 0 else 0
def ne (u : Int → Int) (t : List Tm) : Bool := t.any fun m => decide (u m.1 < -16777216) || decide (16777216 < u m.1)
def dw (l : Ln) (vs : List Int) : Int × Int := if !dd l then (0,5) else if ne (ofN vs) l.t then (0,1) else (kI (ofN vs) l,0)
theorem nq {l : List Int} {i : Nat} (h : i < l.length) : (l.map inA).getD i .u = inA (l.getD i 0) := by rw [qn h,List.getD_eq_getElem?_getD,List.getElem?_eq_getElem h];rfl
def cj : Nat → List Nat
 | 0 => [0,1]
 | 1 => [0,1]
 | 2 => [0,1]
 | 3 => []
 | _ => []
set_option maxRecDepth 100000 in
theorem qW (vs : List Int) (v : Int) (hv : 0 ≤ v) : AFn Tryz.prog 24 [.sl (vs.map inA) vs.length .none,inA v] [] (inA (ofN vs v)) [] := by
 obtain ⟨i,rfl⟩ : ∃ i : Nat,v = (i : Int) := ⟨v.toNat,by omega⟩
 unfold ofN
 by_cases h : i < vs.length
 ·have h' : ((i : Int) < (vs.length : Int)) = True := eq_true (by omega)
  have hg := nq h
  have hl : (vs.map inA).length = vs.length := List.length_map ..
  rw [if_pos (by omega),Int.toNat_natCast]
  refine bi [] Tryz.func24 rfl Tryz.ntmps24 (Nat.le_of_ble_eq_true rfl) (Nat.le_of_ble_eq_true rfl) fun w0 G0 B0 Pr hB0 => ?_
  simp only [bu,bf,List.cons_append,List.nil_append]
  repeat' (first | (with_reducible refine hY _ ?_;clear hY Y) | ((with_reducible first | refine aX rfl (aR fun K' hK' => aa ?_) | refine hK' _ (ab fun Y hY => aa ?_) | refine aZ rfl (ab fun Y hY => aa ?_) | refine ab fun Y hY => aa ?_ | refine aR fun K' hK' => aa ?_ | refine ae tk0 cj (ab fun Y hY => aa ?_) | refine aa ?_ | refine aA ?_ | refine aT rfl (aq fun K' hK' => aa ?_) | refine hK' _ _ (ab fun Y hY => aa ?_) | refine aS rfl (ab fun Y hY => aa ?_) | refine aq fun K' hK' => aa ?_ | refine aK ?_);(try clear hK' K');(try dsimp only [aop]);try simp only [go_sem,↓reduceIte,Nat.reduceEqDiff,Nat.reduceLT,Nat.reduceLeDiff,Nat.reduceAdd,Nat.reduceSub,Nat.reduceMul,Nat.reduceBEq,Nat.reduceBNe,Nat.reducePow,Int.reduceToNat,Int.reduceLE,Int.reduceLT,Int.reduceMul,Int.reduceEq,Int.reducePow,Int.reduceAdd,Int.reduceSub,Int.reduceNeg,reduceCtorEq,cj,Tryz.results24,h',hg,hl]) | (with_reducible first | refine av ?_ | refine an rfl ?_ | refine ap ?_ | refine ao ?_ | refine bk ?_ ?_ | refine aO ?_ | refine aN ?_ | refine bj fun K hK => ?_ | refine ay ?_ | refine az ?_ | refine aU ?_ | refine aQ ?_ | refine aC ?_ | refine aD ?_ | refine aF ?_ | refine aj ?_ | refine ax ?_ | refine aP ?_ | refine aE ?_ | refine aB ?_ | refine ag ?_ | refine af ?_ | refine al ?_ | refine bl fun K hK => ?_) | (with_reducible refine hK _ ?_;clear hK K) | (with_reducible refine hK _ _ ?_ ?_;(· kernel_rfl);clear hK K) | ((with_reducible first | refine aJ ?_ ?_ | refine ai ?_ ?_ | refine aG ?_ ?_);(· decide)) | (with_reducible refine ak tk0 cj ?_ ?_;(· kernel_rfl)) | ((with_reducible first | refine am (fun hc => ?_) (fun hc => ?_) | refine aH (fun hc => ?_) (fun hc => ?_)) <;> (try simp only [decide_eq_true_eq,decide_eq_false_iff_not,Bool.not_true,Bool.not_false,Bool.not_eq_true',Bool.not_eq_false'] at hc) <;> (try (exfalso;omega))) | (with_reducible refine aY ?_ ?_;(· (try and_intros) <;> first | omega | assumption | (simp only [List.length_append,List.length_map,List.length_cons,List.length_nil] <;> omega))) | (with_reducible refine aI ?_) | fail)
 ·have h' : ((i : Int) < (vs.length : Int)) = False := eq_false (by omega)
  rw [if_neg (by omega)]
  refine bi [] Tryz.func24 rfl Tryz.ntmps24 (Nat.le_of_ble_eq_true rfl) (Nat.le_of_ble_eq_true rfl) fun w0 G0 B0 Pr hB0 => ?_
  simp only [bu,bf,List.cons_append,List.nil_append]
  repeat' (first | (with_reducible refine hY _ ?_;clear hY Y) | ((with_reducible first | refine aX rfl (aR fun K' hK' => aa ?_) | refine hK' _ (ab fun Y hY => aa ?_) | refine aZ rfl (ab fun Y hY => aa ?_) | refine ab fun Y hY => aa ?_ | refine aR fun K' hK' => aa ?_ | refine ae tk0 cj (ab fun Y hY => aa ?_) | refine aa ?_ | refine aA ?_ | refine aT rfl (aq fun K' hK' => aa ?_) | refine hK' _ _ (ab fun Y hY => aa ?_) | refine aS rfl (ab fun Y hY => aa ?_) | refine aq fun K' hK' => aa ?_ | refine aK ?_);(try clear hK' K');(try dsimp only [aop]);try simp only [go_sem,↓reduceIte,Nat.reduceEqDiff,Nat.reduceLT,Nat.reduceLeDiff,Nat.reduceAdd,Nat.reduceSub,Nat.reduceMul,Nat.reduceBEq,Nat.reduceBNe,Nat.reducePow,Int.reduceToNat,Int.reduceLE,Int.reduceLT,Int.reduceMul,Int.reduceEq,Int.reducePow,Int.reduceAdd,Int.reduceSub,Int.reduceNeg,reduceCtorEq,cj,Tryz.results24,h']) | (with_reducible first | refine av ?_ | refine an rfl ?_ | refine ap ?_ | refine ao ?_ | refine bk ?_ ?_ | refine aO ?_ | refine aN ?_ | refine bj fun K hK => ?_ | refine ay ?_ | refine az ?_ | refine aU ?_ | refine aQ ?_ | refine aC ?_ | refine aD ?_ | refine aF ?_ | refine aj ?_ | refine ax ?_ | refine aP ?_ | refine aE ?_ | refine aB ?_ | refine ag ?_ | refine af ?_ | refine al ?_ | refine bl fun K hK => ?_) | (with_reducible refine hK _ ?_;clear hK K) | (with_reducible refine hK _ _ ?_ ?_;(· kernel_rfl);clear hK K) | ((with_reducible first | refine aJ ?_ ?_ | refine ai ?_ ?_ | refine aG ?_ ?_);(· decide)) | (with_reducible refine ak tk0 cj ?_ ?_;(· kernel_rfl)) | ((with_reducible first | refine am (fun hc => ?_) (fun hc => ?_) | refine aH (fun hc => ?_) (fun hc => ?_)) <;> (try simp only [decide_eq_true_eq,decide_eq_false_iff_not,Bool.not_true,Bool.not_false,Bool.not_eq_true',Bool.not_eq_false'] at hc) <;> (try (exfalso;omega))) | (with_reducible refine aY ?_ ?_;(· (try and_intros) <;> first | omega | assumption | (simp only [List.length_append,List.length_map,List.length_cons,List.length_nil] <;> omega))) | (with_reducible refine aI ?_) | fail)
theorem mM (u : Int → Int) {t : List Tm} {k : Nat} (h : k < t.length) : eq u (t.take (k + 1)) = eq u (t.take k) + u t[k].1 * t[k].2 := by
 rw [List.take_succ_eq_append_getElem h,kJ]
 simp only [eq,Int.add_zero]
 rw [Int.mul_comm]
theorem lX {x y : Int} (h1 : -16777216 ≤ x) (h2 : x ≤ 16777216) (h3 : -1073741824 ≤ y) (h4 : y ≤ 1073741824) : -18014398509481984 ≤ x * y ∧ x * y ≤ 18014398509481984 := by
 have h := Int.natAbs_mul x y
 have h5 : x.natAbs * y.natAbs ≤ 16777216 * 1073741824 := Nat.mul_le_mul (by omega) (by omega)
 omega
theorem md (u : Int → Int) : ∀ t : List Tm,(∀ m ∈ t,-16777216 ≤ u m.1 ∧ u m.1 ≤ 16777216 ∧ -1073741824 ≤ m.2 ∧ m.2 ≤ 1073741824) → -((t.length : Int) * 18014398509481984) ≤ eq u t ∧ eq u t ≤ (t.length : Int) * 18014398509481984
 | [],_ => by simp [eq]
 | m :: r,h => by
  obtain ⟨a1,a2,a3,a4⟩ := h m (by simp)
  obtain ⟨b1,b2⟩ := lX a1 a2 a3 a4
  have ih := md u r fun x hx => h x (by simp [hx])
  rw [Int.mul_comm] at b1 b2
  rw [eq,List.length_cons]
  omega
theorem pX {u : Int → Int} {t : List Tm} {k : Nat} (h : k < t.length) (hf : (decide (u t[k].1 < -16777216) || decide (16777216 < u t[k].1)) = true) : ne u t = true := List.any_eq_true.2 ⟨_,List.getElem_mem h,hf⟩
def be : Nat → List Nat
 | 0 => [0,1]
 | 1 => [1,2]
 | 2 => [1,2,6]
 | 3 => []
 | 4 => [1,2]
 | 5 => [1,2,7]
 | 6 => [1,2,7,8]
 | 7 => [1,2,7,8]
 | 8 => [1,2,7,8]
 | 9 => [1,2,7,8,9]
 | 10 => []
 | 11 => [1,2,7,8,9]
 | 12 => [7]
 | _ => []
set_option maxRecDepth 100000 in
set_option maxHeartbeats 8000000 in
theorem ky (l : Ln) (vs : List Int) : AFn Tryz.prog 10 [.agg (lnA l),.sl (vs.map inA) vs.length .none] [] (.tup [inA (dw l vs).1,inA (dw l vs).2]) [] := by
 have hck := gY l
 cases hb : dd l with
 | false =>
  rw [hb] at hck
  rw [show dw l vs = (0,5) by unfold dw;rw [hb];rfl]
  refine bi [] Tryz.func10 rfl Tryz.ntmps10 (Nat.le_of_ble_eq_true rfl) (Nat.le_of_ble_eq_true rfl) fun w0 G0 B0 Pr hB0 => ?_
  simp only [bu,bf,List.cons_append,List.nil_append]
  repeat' (first | (with_reducible refine hY _ ?_;clear hY Y) | ((with_reducible first | refine aX rfl (aR fun K' hK' => aa ?_) | refine hK' _ (ab fun Y hY => aa ?_) | refine aZ rfl (ab fun Y hY => aa ?_) | refine ab fun Y hY => aa ?_ | refine aR fun K' hK' => aa ?_ | refine ae tk0 be (ab fun Y hY => aa ?_) | refine aa ?_ | refine aA ?_ | refine aT rfl (aq fun K' hK' => aa ?_) | refine hK' _ _ (ab fun Y hY => aa ?_) | refine aS rfl (ab fun Y hY => aa ?_) | refine aq fun K' hK' => aa ?_ | refine aK ?_);(try clear hK' K');(try dsimp only [aop]);try simp only [go_sem,↓reduceIte,Nat.reduceEqDiff,Nat.reduceLT,Nat.reduceLeDiff,Nat.reduceAdd,Nat.reduceSub,Nat.reduceMul,Nat.reduceBEq,Nat.reduceBNe,Nat.reducePow,Int.reduceToNat,Int.reduceLE,Int.reduceLT,Int.reduceMul,Int.reduceEq,Int.reducePow,Int.reduceAdd,Int.reduceSub,Int.reduceNeg,reduceCtorEq,be,Tryz.results10]) | (with_reducible first | refine av ?_ | refine an rfl ?_ | refine ap ?_ | refine ao ?_ | refine bk ?_ ?_ | refine aO ?_ | refine aN ?_ | refine bj fun K hK => ?_ | refine ay ?_ | refine az ?_ | refine aU ?_ | refine aQ ?_ | refine aC ?_ | refine aD ?_ | refine aF ?_ | refine aj ?_ | refine ax ?_ | refine aP ?_ | refine aE ?_ | refine aB ?_ | refine ag ?_ | refine af ?_ | refine al ?_ | refine bl fun K hK => ?_) | (with_reducible refine hK _ ?_;clear hK K) | (with_reducible refine hK _ _ ?_ ?_;(· kernel_rfl);clear hK K) | ((with_reducible first | refine aJ ?_ ?_ | refine ai ?_ ?_ | refine aG ?_ ?_);(· decide)) | (with_reducible refine ak tk0 be ?_ ?_;(· kernel_rfl)) | ((with_reducible first | refine am (fun hc => ?_) (fun hc => ?_) | refine aH (fun hc => ?_) (fun hc => ?_)) <;> (try simp only [decide_eq_true_eq,decide_eq_false_iff_not,Bool.not_true,Bool.not_false,Bool.not_eq_true',Bool.not_eq_false'] at hc) <;> (try (exfalso;omega))) | (with_reducible refine aY ?_ ?_;(· (try and_intros) <;> first | omega | assumption | (simp only [List.length_append,List.length_map,List.length_cons,List.length_nil] <;> omega))) | (with_reducible refine au (hck) ?_) | (with_reducible refine aI ?_) | fail)
 | true =>
 rw [hb] at hck
 obtain ⟨⟨c1,c2⟩,hl,hm⟩ := fj hb
 have hV : dw l vs = if ne (ofN vs) l.t then (0,1) else (kI (ofN vs) l,0) := by unfold dw;rw [hb];rfl
 rw [hV]
 obtain ⟨c,t⟩ := l
 simp only at c1 c2 hl hm ⊢
 refine bi [] Tryz.func10 rfl Tryz.ntmps10 (Nat.le_of_ble_eq_true rfl) (Nat.le_of_ble_eq_true rfl) fun w0 G0 B0 Pr hB0 => ?_
 simp only [bu,bf,List.cons_append,List.nil_append]
 repeat' (first | (with_reducible refine hY _ ?_;clear hY Y) | ((with_reducible first | refine aX rfl (aR fun K' hK' => aa ?_) | refine hK' _ (ab fun Y hY => aa ?_) | refine aZ rfl (ab fun Y hY => aa ?_) | refine ab fun Y hY => aa ?_ | refine aR fun K' hK' => aa ?_ | refine ae tk0 be (ab fun Y hY => aa ?_) | refine aa ?_ | refine aA ?_ | refine aT rfl (aq fun K' hK' => aa ?_) | refine hK' _ _ (ab fun Y hY => aa ?_) | refine aS rfl (ab fun Y hY => aa ?_) | refine aq fun K' hK' => aa ?_ | refine aK ?_);(try clear hK' K');(try dsimp only [aop]);try simp only [go_sem,↓reduceIte,Nat.reduceEqDiff,Nat.reduceLT,Nat.reduceLeDiff,Nat.reduceAdd,Nat.reduceSub,Nat.reduceMul,Nat.reduceBEq,Nat.reduceBNe,Nat.reducePow,Int.reduceToNat,Int.reduceLE,Int.reduceLT,Int.reduceMul,Int.reduceEq,Int.reducePow,Int.reduceAdd,Int.reduceSub,Int.reduceNeg,reduceCtorEq,be,Tryz.results10]) | (with_reducible first | refine av ?_ | refine an rfl ?_ | refine ap ?_ | refine ao ?_ | refine bk ?_ ?_ | refine aO ?_ | refine aN ?_ | refine bj fun K hK => ?_ | refine ay ?_ | refine az ?_ | refine aU ?_ | refine aQ ?_ | refine aC ?_ | refine aD ?_ | refine aF ?_ | refine aj ?_ | refine ax ?_ | refine aP ?_ | refine aE ?_ | refine aB ?_ | refine ag ?_ | refine af ?_ | refine al ?_ | refine bl fun K hK => ?_) | (with_reducible refine hK _ ?_;clear hK K) | (with_reducible refine hK _ _ ?_ ?_;(· kernel_rfl);clear hK K) | ((with_reducible first | refine aJ ?_ ?_ | refine ai ?_ ?_ | refine aG ?_ ?_);(· decide)) | (with_reducible refine ak tk0 be ?_ ?_;(· kernel_rfl)) | ((with_reducible first | refine am (fun hc => ?_) (fun hc => ?_) | refine aH (fun hc => ?_) (fun hc => ?_)) <;> (try simp only [decide_eq_true_eq,decide_eq_false_iff_not,Bool.not_true,Bool.not_false,Bool.not_eq_true',Bool.not_eq_false'] at hc) <;> (try (exfalso;omega))) | (with_reducible refine aY ?_ ?_;(· (try and_intros) <;> first | omega | assumption | (simp only [List.length_append,List.length_map,List.length_cons,List.length_nil] <;> omega))) | (with_reducible refine au (hck) ?_) | (with_reducible refine aI ?_) | fail)
 refine cq (α := Nat) (fun k => [(1,.sl (vs.map inA) vs.length .none),(2,.loc 10002 0),(7,inA (c + eq (ofN vs) (t.take k))),(8,inA (k : Int)),(10002,.bc [inA c,.sl (bx t) t.length .none] 38)])
  (fun k => k ≤ t.length ∧ ∀ m ∈ t.take k,-16777216 ≤ ofN vs m.1 ∧ ofN vs m.1 ≤ 16777216) (fun k => t.length - k) 0 [1,2,7,8] ?_ ⟨Nat.zero_le _,fun m hm => absurd hm List.not_mem_nil⟩ ?_
 ·simp only [go_sem,↓reduceIte,Nat.reduceEqDiff,Nat.reduceLT,Nat.reduceLeDiff,Nat.reduceAdd,Nat.reduceSub,Nat.reduceMul,Nat.reduceBEq,Nat.reduceBNe,Nat.reducePow,Int.reduceToNat,Int.reduceLE,Int.reduceLT,Int.reduceMul,Int.reduceEq,Int.reducePow,Int.reduceAdd,Int.reduceSub,Int.reduceNeg,reduceCtorEq,List.take_zero,eq,Int.add_zero] <;> rfl
 rintro k ⟨hk,hall⟩ ih
 by_cases hlt : k < t.length
 ·have hlt' : ((k : Int) < (t.length : Int)) = True := eq_true (by omega)
  have hkw := cR (n := k) (by omega)
  have hg0 := gu hlt
  have hg1 := lJ hlt
  have hfl := cu t
  have hmk := hm _ (List.getElem_mem hlt)
  have hof := qW vs t[k].1 hmk.1
  have hfa := pX (u := ofN vs) hlt
  have hbd := md (ofN vs) (t.take k) fun m hm2 => ⟨(hall m hm2).1,(hall m hm2).2,(hm m (List.mem_of_mem_take hm2)).2.2.1,(hm m (List.mem_of_mem_take hm2)).2.2.2⟩
  have hkl : (t.take k).length = k := by rw [List.length_take];omega
  rw [hkl] at hbd
  have hvt := mM (ofN vs) hlt
  have ih' : -16777216 ≤ ofN vs t[k].1 → ofN vs t[k].1 ≤ 16777216 → _ := fun a b => ih (k + 1) ⟨by omega,fun m hm2 => by
   rw [List.take_succ_eq_append_getElem hlt] at hm2
   rcases List.mem_append.1 hm2 with h | h
   ·exact hall m h
   ·simp at h;subst h;exact ⟨a,b⟩⟩ (by omega)
  rw [hvt] at ih'
  clear ih hall hvt hm hV hck
  generalize eq (ofN vs) (t.take k) = V at *
  generalize t[k] = m at *
  obtain ⟨v,x⟩ := m
  obtain ⟨_,_,x1,x2⟩ := hmk
  simp only at hg0 hg1 hof hfa ih' x1 x2
  generalize hu : ofN vs v = u at *
  by_cases h1 : u < -16777216
  ·rw [hfa (by simp [h1]),if_pos rfl]
   have h1' : (u < -16777216) = True := eq_true h1
   clear ih'
   repeat' (first | (with_reducible refine hY _ ?_;clear hY Y) | ((with_reducible first | refine aX rfl (aR fun K' hK' => aa ?_) | refine hK' _ (ab fun Y hY => aa ?_) | refine aZ rfl (ab fun Y hY => aa ?_) | refine ab fun Y hY => aa ?_ | refine aR fun K' hK' => aa ?_ | refine ae tk0 be (ab fun Y hY => aa ?_) | refine aa ?_ | refine aA ?_ | refine aT rfl (aq fun K' hK' => aa ?_) | refine hK' _ _ (ab fun Y hY => aa ?_) | refine aS rfl (ab fun Y hY => aa ?_) | refine aq fun K' hK' => aa ?_ | refine aK ?_);(try clear hK' K');(try dsimp only [aop]);try simp only [go_sem,↓reduceIte,Nat.reduceEqDiff,Nat.reduceLT,Nat.reduceLeDiff,Nat.reduceAdd,Nat.reduceSub,Nat.reduceMul,Nat.reduceBEq,Nat.reduceBNe,Nat.reducePow,Int.reduceToNat,Int.reduceLE,Int.reduceLT,Int.reduceMul,Int.reduceEq,Int.reducePow,Int.reduceAdd,Int.reduceSub,Int.reduceNeg,reduceCtorEq,be,Tryz.results10,hlt',hkw,hg0,hg1,hfl,h1']) | (with_reducible first | refine av ?_ | refine an rfl ?_ | refine ap ?_ | refine ao ?_ | refine bk ?_ ?_ | refine aO ?_ | refine aN ?_ | refine bj fun K hK => ?_ | refine ay ?_ | refine az ?_ | refine aU ?_ | refine aQ ?_ | refine aC ?_ | refine aD ?_ | refine aF ?_ | refine aj ?_ | refine ax ?_ | refine aP ?_ | refine aE ?_ | refine aB ?_ | refine ag ?_ | refine af ?_ | refine al ?_ | refine bl fun K hK => ?_) | (with_reducible refine hK _ ?_;clear hK K) | (with_reducible refine hK _ _ ?_ ?_;(· kernel_rfl);clear hK K) | ((with_reducible first | refine aJ ?_ ?_ | refine ai ?_ ?_ | refine aG ?_ ?_);(· decide)) | (with_reducible refine ak tk0 be ?_ ?_;(· kernel_rfl)) | ((with_reducible first | refine am (fun hc => ?_) (fun hc => ?_) | refine aH (fun hc => ?_) (fun hc => ?_)) <;> (try simp only [decide_eq_true_eq,decide_eq_false_iff_not,Bool.not_true,Bool.not_false,Bool.not_eq_true',Bool.not_eq_false'] at hc) <;> (try (exfalso;omega))) | (with_reducible refine aY ?_ ?_;(· (try and_intros) <;> first | omega | assumption | (simp only [List.length_append,List.length_map,List.length_cons,List.length_nil] <;> omega))) | (with_reducible refine au (hof) ?_) | (with_reducible refine aI ?_) | fail)
  have h1' : (u < -16777216) = False := eq_false h1
  by_cases h2 : 16777216 < u
  ·rw [hfa (by simp [h2]),if_pos rfl]
   have h2' : ((16777216 : Int) < u) = True := eq_true h2
   clear ih'
   repeat' (first | (with_reducible refine hY _ ?_;clear hY Y) | ((with_reducible first | refine aX rfl (aR fun K' hK' => aa ?_) | refine hK' _ (ab fun Y hY => aa ?_) | refine aZ rfl (ab fun Y hY => aa ?_) | refine ab fun Y hY => aa ?_ | refine aR fun K' hK' => aa ?_ | refine ae tk0 be (ab fun Y hY => aa ?_) | refine aa ?_ | refine aA ?_ | refine aT rfl (aq fun K' hK' => aa ?_) | refine hK' _ _ (ab fun Y hY => aa ?_) | refine aS rfl (ab fun Y hY => aa ?_) | refine aq fun K' hK' => aa ?_ | refine aK ?_);(try clear hK' K');(try dsimp only [aop]);try simp only [go_sem,↓reduceIte,Nat.reduceEqDiff,Nat.reduceLT,Nat.reduceLeDiff,Nat.reduceAdd,Nat.reduceSub,Nat.reduceMul,Nat.reduceBEq,Nat.reduceBNe,Nat.reducePow,Int.reduceToNat,Int.reduceLE,Int.reduceLT,Int.reduceMul,Int.reduceEq,Int.reducePow,Int.reduceAdd,Int.reduceSub,Int.reduceNeg,reduceCtorEq,be,Tryz.results10,hlt',hkw,hg0,hg1,hfl,h1',h2']) | (with_reducible first | refine av ?_ | refine an rfl ?_ | refine ap ?_ | refine ao ?_ | refine bk ?_ ?_ | refine aO ?_ | refine aN ?_ | refine bj fun K hK => ?_ | refine ay ?_ | refine az ?_ | refine aU ?_ | refine aQ ?_ | refine aC ?_ | refine aD ?_ | refine aF ?_ | refine aj ?_ | refine ax ?_ | refine aP ?_ | refine aE ?_ | refine aB ?_ | refine ag ?_ | refine af ?_ | refine al ?_ | refine bl fun K hK => ?_) | (with_reducible refine hK _ ?_;clear hK K) | (with_reducible refine hK _ _ ?_ ?_;(· kernel_rfl);clear hK K) | ((with_reducible first | refine aJ ?_ ?_ | refine ai ?_ ?_ | refine aG ?_ ?_);(· decide)) | (with_reducible refine ak tk0 be ?_ ?_;(· kernel_rfl)) | ((with_reducible first | refine am (fun hc => ?_) (fun hc => ?_) | refine aH (fun hc => ?_) (fun hc => ?_)) <;> (try simp only [decide_eq_true_eq,decide_eq_false_iff_not,Bool.not_true,Bool.not_false,Bool.not_eq_true',Bool.not_eq_false'] at hc) <;> (try (exfalso;omega))) | (with_reducible refine aY ?_ ?_;(· (try and_intros) <;> first | omega | assumption | (simp only [List.length_append,List.length_map,List.length_cons,List.length_nil] <;> omega))) | (with_reducible refine au (hof) ?_) | (with_reducible refine aI ?_) | fail)
  have h2' : ((16777216 : Int) < u) = False := eq_false h2
  have ih3 := ih' (by omega) (by omega)
  obtain ⟨b1,b2⟩ := lX (x := u) (y := x) (by omega) (by omega) x1 x2
  have hw1 : IntKind.i64.wrap (u * x) = u * x := bQ (by omega) (by omega)
  have hw2 : IntKind.i64.wrap (c + V + u * x) = c + (V + u * x) := by rw [bQ (by omega) (by omega)];omega
  clear ih' hfa
  repeat' (first | (with_reducible refine hY _ ?_;clear hY Y) | ((with_reducible first | refine aX rfl (aR fun K' hK' => aa ?_) | refine hK' _ (ab fun Y hY => aa ?_) | refine aZ rfl (ab fun Y hY => aa ?_) | refine ab fun Y hY => aa ?_ | refine aR fun K' hK' => aa ?_ | refine ae tk0 be (ab fun Y hY => aa ?_) | refine aa ?_ | refine aA ?_ | refine aT rfl (aq fun K' hK' => aa ?_) | refine hK' _ _ (ab fun Y hY => aa ?_) | refine aS rfl (ab fun Y hY => aa ?_) | refine aq fun K' hK' => aa ?_ | refine aK ?_);(try clear hK' K');(try dsimp only [aop]);try simp only [go_sem,↓reduceIte,Nat.reduceEqDiff,Nat.reduceLT,Nat.reduceLeDiff,Nat.reduceAdd,Nat.reduceSub,Nat.reduceMul,Nat.reduceBEq,Nat.reduceBNe,Nat.reducePow,Int.reduceToNat,Int.reduceLE,Int.reduceLT,Int.reduceMul,Int.reduceEq,Int.reducePow,Int.reduceAdd,Int.reduceSub,Int.reduceNeg,reduceCtorEq,be,Tryz.results10,hlt',hkw,hg0,hg1,hfl,h1',h2',hw1,hw2]) | (with_reducible first | refine av ?_ | refine an rfl ?_ | refine ap ?_ | refine ao ?_ | refine bk ?_ ?_ | refine aO ?_ | refine aN ?_ | refine bj fun K hK => ?_ | refine ay ?_ | refine az ?_ | refine aU ?_ | refine aQ ?_ | refine aC ?_ | refine aD ?_ | refine aF ?_ | refine aj ?_ | refine ax ?_ | refine aP ?_ | refine aE ?_ | refine aB ?_ | refine ag ?_ | refine af ?_ | refine al ?_ | refine bl fun K hK => ?_) | (with_reducible refine hK _ ?_;clear hK K) | (with_reducible refine hK _ _ ?_ ?_;(· kernel_rfl);clear hK K) | ((with_reducible first | refine aJ ?_ ?_ | refine ai ?_ ?_ | refine aG ?_ ?_);(· decide)) | (with_reducible refine ak tk0 be ?_ ?_;(· kernel_rfl)) | ((with_reducible first | refine am (fun hc => ?_) (fun hc => ?_) | refine aH (fun hc => ?_) (fun hc => ?_)) <;> (try simp only [decide_eq_true_eq,decide_eq_false_iff_not,Bool.not_true,Bool.not_false,Bool.not_eq_true',Bool.not_eq_false'] at hc) <;> (try (exfalso;omega))) | (with_reducible refine aY ?_ ?_;(· (try and_intros) <;> first | omega | assumption | (simp only [List.length_append,List.length_map,List.length_cons,List.length_nil] <;> omega))) | (with_reducible refine au (hof) ?_) | (with_reducible refine aI ?_) | fail)
  refine bJ [1,2,7,8] (by simp only [go_sem,↓reduceIte,Nat.reduceEqDiff,Nat.reduceLT,Nat.reduceLeDiff,Nat.reduceAdd,Nat.reduceSub,Nat.reduceMul,Nat.reduceBEq,Nat.reduceBNe,Nat.reducePow,Int.reduceToNat,Int.reduceLE,Int.reduceLT,Int.reduceMul,Int.reduceEq,Int.reducePow,Int.reduceAdd,Int.reduceSub,Int.reduceNeg,reduceCtorEq];exact rfl) ?_
  exact ih3
 ·have hlt' : ((k : Int) < (t.length : Int)) = False := eq_false (by omega)
  rw [List.take_of_length_le (by omega)] at hall ⊢
  have hf : ne (ofN vs) t = false := by
   cases h : ne (ofN vs) t with
   | false => rfl
   | true =>
    obtain ⟨m,hm1,hm2⟩ := List.any_eq_true.1 h
    have := hall m hm1
    simp at hm2;omega
  rw [hf,if_neg (by decide)]
  clear ih hall
  repeat' (first | (with_reducible refine hY _ ?_;clear hY Y) | ((with_reducible first | refine aX rfl (aR fun K' hK' => aa ?_) | refine hK' _ (ab fun Y hY => aa ?_) | refine aZ rfl (ab fun Y hY => aa ?_) | refine ab fun Y hY => aa ?_ | refine aR fun K' hK' => aa ?_ | refine ae tk0 be (ab fun Y hY => aa ?_) | refine aa ?_ | refine aA ?_ | refine aT rfl (aq fun K' hK' => aa ?_) | refine hK' _ _ (ab fun Y hY => aa ?_) | refine aS rfl (ab fun Y hY => aa ?_) | refine aq fun K' hK' => aa ?_ | refine aK ?_);(try clear hK' K');(try dsimp only [aop]);try simp only [go_sem,↓reduceIte,Nat.reduceEqDiff,Nat.reduceLT,Nat.reduceLeDiff,Nat.reduceAdd,Nat.reduceSub,Nat.reduceMul,Nat.reduceBEq,Nat.reduceBNe,Nat.reducePow,Int.reduceToNat,Int.reduceLE,Int.reduceLT,Int.reduceMul,Int.reduceEq,Int.reducePow,Int.reduceAdd,Int.reduceSub,Int.reduceNeg,reduceCtorEq,be,Tryz.results10,hlt']) | (with_reducible first | refine av ?_ | refine an rfl ?_ | refine ap ?_ | refine ao ?_ | refine bk ?_ ?_ | refine aO ?_ | refine aN ?_ | refine bj fun K hK => ?_ | refine ay ?_ | refine az ?_ | refine aU ?_ | refine aQ ?_ | refine aC ?_ | refine aD ?_ | refine aF ?_ | refine aj ?_ | refine ax ?_ | refine aP ?_ | refine aE ?_ | refine aB ?_ | refine ag ?_ | refine af ?_ | refine al ?_ | refine bl fun K hK => ?_) | (with_reducible refine hK _ ?_;clear hK K) | (with_reducible refine hK _ _ ?_ ?_;(· kernel_rfl);clear hK K) | ((with_reducible first | refine aJ ?_ ?_ | refine ai ?_ ?_ | refine aG ?_ ?_);(· decide)) | (with_reducible refine ak tk0 be ?_ ?_;(· kernel_rfl)) | ((with_reducible first | refine am (fun hc => ?_) (fun hc => ?_) | refine aH (fun hc => ?_) (fun hc => ?_)) <;> (try simp only [decide_eq_true_eq,decide_eq_false_iff_not,Bool.not_true,Bool.not_false,Bool.not_eq_true',Bool.not_eq_false'] at hc) <;> (try (exfalso;omega))) | (with_reducible refine aY ?_ ?_;(· (try and_intros) <;> first | omega | assumption | (simp only [List.length_append,List.length_map,List.length_cons,List.length_nil] <;> omega))) | (with_reducible refine aI ?_) | fail)
  all_goals rfl
end Go.Proofs.YtiiaokjgbjhfhaaGreatDoor

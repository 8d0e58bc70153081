/- Cut in K: sound forms: lin.Check, the document's Check. Cut in K: sound forms, the document's way. Cut: whatever makes all premises at most 0 makes all lines so. No program is in sight. A form's value, the document's way, in K. What a lemma's opposites say: plain. No program is in sight. -/
import Derived.Test.YtmpdocplcgbpkaaGreatDoorZ9
import Derived.Test.YtmpdocplcgbpkaaGreatDoorZ0
namespace Go.Proofs.YtmpdocplcgbpkaaGreatDoor
set_option linter.unusedSimpArgs false
set_option linter.unusedVariables false
open Go.RowKit
theorem mt : ∀ (a b : List Tm) (last : Int),db last (a ++ b) = true → db last a = true
 | [],b,last,_ => rfl
 | m :: a,b,last,h => by
  rw [List.cons_append,db,Bool.and_eq_true] at h
  rw [db,Bool.and_eq_true]
  exact ⟨h.1,mt a b m.1 h.2⟩
def kZ (t : List Tm) (k : Nat) : Int := ((t.take k).getLast?.map (·.1)).getD (-1)
theorem wL {t : List Tm} {k : Nat} (h0 : 0 < k) (h : k - 1 < t.length) : kZ t k = t[k - 1].1 := by
 unfold kZ
 have e : t.take k = t.take (k - 1) ++ [t[k - 1]] := by
  rw [← List.take_succ_eq_append_getElem h,Nat.sub_add_cancel h0]
 rw [e,List.getLast?_append];rfl
theorem p9 {t : List Tm} {k : Nat} (h : k < t.length) (hk : db (-1) (t.take k) = true) : db (-1) (t.take (k + 1)) = jE (kZ t k) t[k] := by
 rw [List.take_succ_eq_append_getElem h,ld,hk,Bool.true_and];rfl
theorem rq {t : List Tm} {k : Nat} (h : db (-1) (t.take (k + 1)) = false) : db (-1) t = false := by
 cases hh : db (-1) t with
 | false => rfl
 | true =>
  rw [← List.take_append_drop (k + 1) t] at hh
  rw [mt _ _ _ hh] at h;cases h
abbrev iw (l : Ln) : AV := cK (if dg l then 0 else 5)
theorem lH {k : Nat} (h0 : 0 < k) (h : k ≤ 140737488351232) : IntKind.i64.wrap ((k : Int) - 1) = ((k - 1 : Nat) : Int) := by rw [bQ (by omega) (by omega)];omega
def bG : Nat → List Nat
 | 0 => [0]
 | 1 => [1]
 | 2 => []
 | 3 => [1]
 | 4 => [1,17,18,19]
 | 5 => [1,17,18,19]
 | 6 => [1,3,4,17,18,19]
 | 7 => []
 | 8 => [1,17,18,19]
 | 9 => []
 | _ => []
set_option maxRecDepth 100000 in
set_option maxHeartbeats 8000000 in
theorem ew (l : Ln) : AFn Tryz.prog 78 [.agg (lnA l)] [] (iw l) [] := by
 obtain ⟨c,t⟩ := l
 have hcf := nN c
 cases hc0 : dc c with
 | false =>
  rw [hc0] at hcf
  have hb : dg ⟨c,t⟩ = false := by unfold dg;simp [hc0]
  rw [show iw ⟨c,t⟩ = cK 5 by unfold iw;simp [hb],dF]
  refine bm [] Tryz.func78 rfl Tryz.ntmps78 (Nat.le_of_ble_eq_true rfl) (Nat.le_of_ble_eq_true rfl) fun w0 G0 B0 Pr hB0 => ?_
  simp only [bD,bj,List.cons_append,List.nil_append]
  repeat' (first | (with_reducible refine hY _ ?_;clear hY Y) | ((with_reducible first | refine aX rfl (aR fun K' hK' => aa ?_) | refine hK' _ (ab fun Y hY => aa ?_) | refine aW rfl (ab fun Y hY => aa ?_) | refine ab fun Y hY => aa ?_ | refine ag tk0 bG (ab fun Y hY => aa ?_) | refine aa ?_ | refine aH ?_);(try clear hK' K');(try dsimp only [aop]);try simp only [go_sem,↓reduceIte,Nat.reduceEqDiff,Nat.reduceLT,Nat.reduceLeDiff,Nat.reduceAdd,Nat.reduceSub,Nat.reduceMul,Nat.reduceBEq,Nat.reduceBNe,Nat.reducePow,Int.reduceToNat,Int.reduceLE,Int.reduceLT,Int.reduceMul,Int.reduceEq,Int.reducePow,Int.reduceAdd,Int.reduceSub,Int.reduceNeg,reduceCtorEq,bG,Tryz.results78]) | (with_reducible first | refine aI ?_ | refine am rfl ?_ | refine bg ?_ ?_ | refine aP ?_ | refine aS ?_ | refine bi fun K hK => ?_ | refine aD ?_ | refine aQ ?_ | refine aL ?_) | (with_reducible refine hK _ ?_;clear hK K) | ((with_reducible first | refine aF ?_ ?_ | refine ai ?_ ?_);(· decide)) | (with_reducible refine aK (hcf) ?_))
 | true =>
 rw [hc0] at hcf
 by_cases h64 : 64 < t.length
 ·have h64' : ((64 : Int) < (t.length : Int)) = True := eq_true (by omega)
  have hb : dg ⟨c,t⟩ = false := by
   unfold dg
   rw [show decide ((⟨c,t⟩ : Ln).t.length ≤ 64) = false from decide_eq_false (by show ¬ t.length ≤ 64;omega),Bool.false_and,Bool.and_false]
  rw [show iw ⟨c,t⟩ = cK 5 by unfold iw;simp [hb],dF]
  refine bm [] Tryz.func78 rfl Tryz.ntmps78 (Nat.le_of_ble_eq_true rfl) (Nat.le_of_ble_eq_true rfl) fun w0 G0 B0 Pr hB0 => ?_
  simp only [bD,bj,List.cons_append,List.nil_append]
  repeat' (first | (with_reducible refine hY _ ?_;clear hY Y) | ((with_reducible first | refine aX rfl (aR fun K' hK' => aa ?_) | refine hK' _ (ab fun Y hY => aa ?_) | refine aW rfl (ab fun Y hY => aa ?_) | refine ab fun Y hY => aa ?_ | refine aR fun K' hK' => aa ?_ | refine ag tk0 bG (ab fun Y hY => aa ?_) | refine aa ?_ | refine aH ?_);(try clear hK' K');(try dsimp only [aop]);try simp only [go_sem,↓reduceIte,Nat.reduceEqDiff,Nat.reduceLT,Nat.reduceLeDiff,Nat.reduceAdd,Nat.reduceSub,Nat.reduceMul,Nat.reduceBEq,Nat.reduceBNe,Nat.reducePow,Int.reduceToNat,Int.reduceLE,Int.reduceLT,Int.reduceMul,Int.reduceEq,Int.reducePow,Int.reduceAdd,Int.reduceSub,Int.reduceNeg,reduceCtorEq,bG,Tryz.results78,h64']) | (with_reducible first | refine aI ?_ | refine ao ?_ | refine aP ?_ | refine aS ?_ | refine bi fun K hK => ?_ | refine aD ?_ | refine aQ ?_ | refine aL ?_) | (with_reducible refine hK _ ?_;clear hK K) | ((with_reducible first | refine aF ?_ ?_ | refine ai ?_ ?_);(· decide)) | (with_reducible refine aK (hcf) ?_))
 have h64' : ((64 : Int) < (t.length : Int)) = False := eq_false (by omega)
 have hl : iw ⟨c,t⟩ = cK (if db (-1) t then 0 else 5) := by unfold iw dg;simp [hc0,show t.length ≤ 64 by omega]
 rw [hl]
 refine bm [] Tryz.func78 rfl Tryz.ntmps78 (Nat.le_of_ble_eq_true rfl) (Nat.le_of_ble_eq_true rfl) fun w0 G0 B0 Pr hB0 => ?_
 simp only [bD,bj,List.cons_append,List.nil_append]
 repeat' (first | (with_reducible refine hY _ ?_;clear hY Y) | ((with_reducible first | refine aX rfl (aR fun K' hK' => aa ?_) | refine hK' _ (ab fun Y hY => aa ?_) | refine aW rfl (ab fun Y hY => aa ?_) | refine ab fun Y hY => aa ?_ | refine aR fun K' hK' => aa ?_ | refine ag tk0 bG (ab fun Y hY => aa ?_) | refine aa ?_);(try clear hK' K');(try dsimp only [aop]);try simp only [go_sem,↓reduceIte,Nat.reduceEqDiff,Nat.reduceLT,Nat.reduceLeDiff,Nat.reduceAdd,Nat.reduceSub,Nat.reduceMul,Nat.reduceBEq,Nat.reduceBNe,Nat.reducePow,Int.reduceToNat,Int.reduceLE,Int.reduceLT,Int.reduceMul,Int.reduceEq,Int.reducePow,Int.reduceAdd,Int.reduceSub,Int.reduceNeg,reduceCtorEq,bG,Tryz.results78,h64']) | (with_reducible first | refine aI ?_ | refine ao ?_ | refine aP ?_ | refine aS ?_ | refine bi fun K hK => ?_ | refine aC ?_ | refine ah ?_ | refine av ?_ | refine au ?_) | (with_reducible refine hK _ ?_;clear hK K) | ((with_reducible first | refine aF ?_ ?_ | refine ai ?_ ?_);(· decide)) | (with_reducible refine aK (hcf) ?_))
 refine b7 (α := Nat) (fun k => [(1,.loc 10001 0),(17,.sl (bn t) t.length .none),(18,inA (t.length : Int)),(19,inA (k : Int)),(10001,.bc [inA c,.sl (bn t) t.length .none] 24)])
  (fun k => k ≤ t.length ∧ db (-1) (t.take k) = true) (fun k => t.length - k) 0 [1,17,18,19] ?_ ⟨Nat.zero_le _,rfl⟩ ?_
 ·simp only [go_sem,↓reduceIte,Nat.reduceEqDiff,Nat.reduceLT,Nat.reduceLeDiff,Nat.reduceAdd,Nat.reduceSub,Nat.reduceMul,Nat.reduceBEq,Nat.reduceBNe,Nat.reducePow,Int.reduceToNat,Int.reduceLE,Int.reduceLT,Int.reduceMul,Int.reduceEq,Int.reducePow,Int.reduceAdd,Int.reduceSub,Int.reduceNeg,reduceCtorEq] <;> rfl
 rintro k ⟨hk,hall⟩ ih
 by_cases hlt : k < t.length
 ·have hlt' : ((k : Int) < (t.length : Int)) = True := eq_true (by omega)
  have hkw := cC (n := k) (by omega)
  have hg0 := eM hlt
  have hfl := cM t
  have hst := p9 hlt hall
  have hno : jE (kZ t k) t[k] = false → db (-1) t = false := fun e => rq (k := k) (hst.trans e)
  have ih' : jE (kZ t k) t[k] = true → _ := fun e => ih (k + 1) ⟨by omega,hst.trans e⟩ (by omega)
  clear ih hst
  have hpv : 0 < k → (bn t).getD ((k - 1) * 2) .u = inA (kZ t k) := fun h0 => by rw [wL h0 (by omega)];exact rF (by omega)
  have hp0 : k = 0 → kZ t k = -1 := fun e => by rw [e];rfl
  generalize hL : kZ t k = L at *
  generalize t[k] = m at *
  obtain ⟨v,x⟩ := m
  have hv1 := ru v
  have hx1 := nN x
  unfold jE at hno ih'
  simp only at hno ih' hv1 hx1 hg0
  cases hvb : ku v with
  | false =>
   rw [hvb] at hno hv1
   rw [hno (by simp),if_neg (by decide),dF]
   clear ih' hno hpv hp0
   repeat' (first | (with_reducible refine hY _ ?_;clear hY Y) | ((with_reducible first | refine aX rfl (aR fun K' hK' => aa ?_) | refine hK' _ (ab fun Y hY => aa ?_) | refine ab fun Y hY => aa ?_ | refine ag tk0 bG (ab fun Y hY => aa ?_) | refine aa ?_ | refine aH ?_ | refine aN rfl (ap fun K' hK' => aa ?_) | refine hK' _ _ (ab fun Y hY => aa ?_) | refine aM rfl (ab fun Y hY => aa ?_));(try clear hK' K');(try dsimp only [aop]);try simp only [go_sem,↓reduceIte,Nat.reduceEqDiff,Nat.reduceLT,Nat.reduceLeDiff,Nat.reduceAdd,Nat.reduceSub,Nat.reduceMul,Nat.reduceBEq,Nat.reduceBNe,Nat.reducePow,Int.reduceToNat,Int.reduceLE,Int.reduceLT,Int.reduceMul,Int.reduceEq,Int.reducePow,Int.reduceAdd,Int.reduceSub,Int.reduceNeg,reduceCtorEq,bG,Tryz.results78,hlt',hfl,hg0]) | (with_reducible first | refine aI ?_ | refine am rfl ?_ | refine an ?_ | refine bg ?_ ?_ | refine aP ?_ | refine aS ?_ | refine bi fun K hK => ?_ | refine aD ?_ | refine aQ ?_ | refine aA ?_ | refine ah ?_ | refine av ?_ | refine aL ?_ | refine aj ?_ | refine bh fun K hK => ?_) | (with_reducible refine hK _ ?_;clear hK K) | (with_reducible refine hK _ _ ?_ ?_;(· kernel_rfl);clear hK K) | ((with_reducible first | refine aF ?_ ?_ | refine ai ?_ ?_);(· decide)) | (with_reducible refine aq tk0 bG ?_ ?_;(· kernel_rfl)) | (with_reducible refine aV ?_ ?_;(· (try and_intros) <;> first | omega | assumption | (simp only [List.length_append,List.length_map,List.length_cons,List.length_nil] <;> omega))) | (with_reducible refine aK (hv1) ?_))
  | true =>
  rw [hvb] at hno hv1 ih'
  cases hxb : dc x with
  | false =>
   rw [hxb] at hno hx1
   rw [hno (by simp),if_neg (by decide),dF]
   clear ih' hno hpv hp0
   repeat' (first | (with_reducible refine hY _ ?_;clear hY Y) | ((with_reducible first | refine aX rfl (aR fun K' hK' => aa ?_) | refine hK' _ (ab fun Y hY => aa ?_) | refine ab fun Y hY => aa ?_ | refine ag tk0 bG (ab fun Y hY => aa ?_) | refine aa ?_ | refine aH ?_ | refine aN rfl (ap fun K' hK' => aa ?_) | refine hK' _ _ (ab fun Y hY => aa ?_) | refine aM rfl (ab fun Y hY => aa ?_) | refine ap fun K' hK' => aa ?_);(try clear hK' K');(try dsimp only [aop]);try simp only [go_sem,↓reduceIte,Nat.reduceEqDiff,Nat.reduceLT,Nat.reduceLeDiff,Nat.reduceAdd,Nat.reduceSub,Nat.reduceMul,Nat.reduceBEq,Nat.reduceBNe,Nat.reducePow,Int.reduceToNat,Int.reduceLE,Int.reduceLT,Int.reduceMul,Int.reduceEq,Int.reducePow,Int.reduceAdd,Int.reduceSub,Int.reduceNeg,reduceCtorEq,bG,Tryz.results78,hlt',hfl,hg0]) | (with_reducible first | refine aI ?_ | refine am rfl ?_ | refine ao ?_ | refine an ?_ | refine bg ?_ ?_ | refine aP ?_ | refine aS ?_ | refine bi fun K hK => ?_ | refine aD ?_ | refine aQ ?_ | refine aA ?_ | refine ah ?_ | refine av ?_ | refine aL ?_ | refine aj ?_ | refine bh fun K hK => ?_) | (with_reducible refine hK _ ?_;clear hK K) | (with_reducible refine hK _ _ ?_ ?_;(· kernel_rfl);clear hK K) | ((with_reducible first | refine aF ?_ ?_ | refine ai ?_ ?_);(· decide)) | (with_reducible refine aq tk0 bG ?_ ?_;(· kernel_rfl)) | (with_reducible refine aV ?_ ?_;(· (try and_intros) <;> first | omega | assumption | (simp only [List.length_append,List.length_map,List.length_cons,List.length_nil] <;> omega))) | (with_reducible refine aK (hv1) ?_) | (with_reducible refine aK (hx1) ?_))
  | true =>
  rw [hxb] at hno hx1 ih'
  by_cases hx0 : x = 0
  ·rw [hno (by simp [hx0]),if_neg (by decide),dF]
   clear ih' hno hpv hp0
   subst hx0
   repeat' (first | (with_reducible refine hY _ ?_;clear hY Y) | ((with_reducible first | refine aX rfl (aR fun K' hK' => aa ?_) | refine hK' _ (ab fun Y hY => aa ?_) | refine ab fun Y hY => aa ?_ | refine ag tk0 bG (ab fun Y hY => aa ?_) | refine aa ?_ | refine aH ?_ | refine aN rfl (ap fun K' hK' => aa ?_) | refine hK' _ _ (ab fun Y hY => aa ?_) | refine aM rfl (ab fun Y hY => aa ?_) | refine ap fun K' hK' => aa ?_);(try clear hK' K');(try dsimp only [aop]);try simp only [go_sem,↓reduceIte,Nat.reduceEqDiff,Nat.reduceLT,Nat.reduceLeDiff,Nat.reduceAdd,Nat.reduceSub,Nat.reduceMul,Nat.reduceBEq,Nat.reduceBNe,Nat.reducePow,Int.reduceToNat,Int.reduceLE,Int.reduceLT,Int.reduceMul,Int.reduceEq,Int.reducePow,Int.reduceAdd,Int.reduceSub,Int.reduceNeg,reduceCtorEq,bG,Tryz.results78,hlt',hfl,hg0]) | (with_reducible first | refine aI ?_ | refine am rfl ?_ | refine ao ?_ | refine an ?_ | refine bg ?_ ?_ | refine aP ?_ | refine aS ?_ | refine bi fun K hK => ?_ | refine aD ?_ | refine aQ ?_ | refine aA ?_ | refine ah ?_ | refine av ?_ | refine aL ?_ | refine aj ?_ | refine bh fun K hK => ?_) | (with_reducible refine hK _ ?_;clear hK K) | (with_reducible refine hK _ _ ?_ ?_;(· kernel_rfl);clear hK K) | ((with_reducible first | refine aF ?_ ?_ | refine ai ?_ ?_);(· decide)) | (with_reducible refine aq tk0 bG ?_ ?_;(· kernel_rfl)) | (with_reducible refine aV ?_ ?_;(· (try and_intros) <;> first | omega | assumption | (simp only [List.length_append,List.length_map,List.length_cons,List.length_nil] <;> omega))) | (with_reducible refine aK (hv1) ?_) | (with_reducible refine aK (hx1) ?_))
  by_cases hk0 : 0 < k
  ·have hk0' : ((0 : Int) < (k : Int)) = True := eq_true (by omega)
   have hkm := lH hk0 (by omega)
   have hg1 := hpv hk0
   have hb1 : (0 : Int) ≤ ((k - 1 : Nat) : Int) := by omega
   have hb2 : ((k - 1 : Nat) : Int) < (t.length : Int) := by omega
   have hb3 : (k - 1) * 2 < (bn t).length := by omega
   by_cases hvl : L < v
   ·have hvl' : (v ≤ L) = False := eq_false (by omega)
    clear hno hpv hp0 hvb hxb
    repeat' (first | (with_reducible refine hY _ ?_;clear hY Y) | ((with_reducible first | refine aX rfl (aR fun K' hK' => aa ?_) | refine hK' _ (ab fun Y hY => aa ?_) | refine ab fun Y hY => aa ?_ | refine ag tk0 bG (ab fun Y hY => aa ?_) | refine aa ?_ | refine aN rfl (ap fun K' hK' => aa ?_) | refine hK' _ _ (ab fun Y hY => aa ?_) | refine aM rfl (ab fun Y hY => aa ?_) | refine ap fun K' hK' => aa ?_);(try clear hK' K');(try dsimp only [aop]);try simp only [go_sem,↓reduceIte,Nat.reduceEqDiff,Nat.reduceLT,Nat.reduceLeDiff,Nat.reduceAdd,Nat.reduceSub,Nat.reduceMul,Nat.reduceBEq,Nat.reduceBNe,Nat.reducePow,Int.reduceToNat,Int.reduceLE,Int.reduceLT,Int.reduceMul,Int.reduceEq,Int.reducePow,Int.reduceAdd,Int.reduceSub,Int.reduceNeg,reduceCtorEq,bG,Tryz.results78,hlt',hfl,hg0,hx0,hk0',hkm,hg1,hvl',hkw]) | (with_reducible first | refine aI ?_ | refine ao ?_ | refine aP ?_ | refine aS ?_ | refine bi fun K hK => ?_ | refine aD ?_ | refine aC ?_ | refine ay ?_ | refine ah ?_ | refine av ?_ | refine aj ?_ | refine bh fun K hK => ?_) | (with_reducible refine hK _ ?_;clear hK K) | (with_reducible refine hK _ _ ?_ ?_;(· kernel_rfl);clear hK K) | ((with_reducible first | refine aF ?_ ?_ | refine ai ?_ ?_);(· decide)) | (with_reducible refine aq tk0 bG ?_ ?_;(· kernel_rfl)) | (with_reducible refine aV ?_ ?_;(· (try and_intros) <;> first | omega | assumption | (simp only [List.length_append,List.length_map,List.length_cons,List.length_nil] <;> omega))) | (with_reducible refine aK (hv1) ?_) | (with_reducible refine aK (hx1) ?_))
    refine bO [1,17,18,19] (by simp only [go_sem,↓reduceIte,Nat.reduceEqDiff,Nat.reduceLT,Nat.reduceLeDiff,Nat.reduceAdd,Nat.reduceSub,Nat.reduceMul,Nat.reduceBEq,Nat.reduceBNe,Nat.reducePow,Int.reduceToNat,Int.reduceLE,Int.reduceLT,Int.reduceMul,Int.reduceEq,Int.reducePow,Int.reduceAdd,Int.reduceSub,Int.reduceNeg,reduceCtorEq];exact rfl) ?_
    exact ih' (by simp [hx0,hvl])
   ·have hvl' : (v ≤ L) = True := eq_true (by omega)
    rw [hno (by simp [hvl]),if_neg (by decide),dF]
    clear ih' hno hpv hp0 hvb hxb
    repeat' (first | (with_reducible refine hY _ ?_;clear hY Y) | ((with_reducible first | refine aX rfl (aR fun K' hK' => aa ?_) | refine hK' _ (ab fun Y hY => aa ?_) | refine ab fun Y hY => aa ?_ | refine ag tk0 bG (ab fun Y hY => aa ?_) | refine aa ?_ | refine aH ?_ | refine aN rfl (ap fun K' hK' => aa ?_) | refine hK' _ _ (ab fun Y hY => aa ?_) | refine aM rfl (ab fun Y hY => aa ?_) | refine ap fun K' hK' => aa ?_);(try clear hK' K');(try dsimp only [aop]);try simp only [go_sem,↓reduceIte,Nat.reduceEqDiff,Nat.reduceLT,Nat.reduceLeDiff,Nat.reduceAdd,Nat.reduceSub,Nat.reduceMul,Nat.reduceBEq,Nat.reduceBNe,Nat.reducePow,Int.reduceToNat,Int.reduceLE,Int.reduceLT,Int.reduceMul,Int.reduceEq,Int.reducePow,Int.reduceAdd,Int.reduceSub,Int.reduceNeg,reduceCtorEq,bG,Tryz.results78,hlt',hfl,hg0,hx0,hk0',hkm,hg1,hvl',hkw]) | (with_reducible first | refine aI ?_ | refine ao ?_ | refine aP ?_ | refine aS ?_ | refine bi fun K hK => ?_ | refine aD ?_ | refine aQ ?_ | refine aA ?_ | refine ah ?_ | refine av ?_ | refine aL ?_ | refine aj ?_ | refine bh fun K hK => ?_) | (with_reducible refine hK _ ?_;clear hK K) | (with_reducible refine hK _ _ ?_ ?_;(· kernel_rfl);clear hK K) | ((with_reducible first | refine aF ?_ ?_ | refine ai ?_ ?_);(· decide)) | (with_reducible refine aq tk0 bG ?_ ?_;(· kernel_rfl)) | (with_reducible refine aV ?_ ?_;(· (try and_intros) <;> first | omega | assumption | (simp only [List.length_append,List.length_map,List.length_cons,List.length_nil] <;> omega))) | (with_reducible refine aK (hv1) ?_) | (with_reducible refine aK (hx1) ?_))
  ·have hk0' : ((0 : Int) < (k : Int)) = False := eq_false (by omega)
   have hL1 := hp0 (by omega)
   have hv0 : 0 ≤ v := by unfold ku at hvb;simp at hvb;exact hvb.1
   clear hno hpv hp0 hxb
   repeat' (first | (with_reducible refine hY _ ?_;clear hY Y) | ((with_reducible first | refine aX rfl (aR fun K' hK' => aa ?_) | refine hK' _ (ab fun Y hY => aa ?_) | refine ab fun Y hY => aa ?_ | refine ag tk0 bG (ab fun Y hY => aa ?_) | refine aa ?_ | refine aN rfl (ap fun K' hK' => aa ?_) | refine hK' _ _ (ab fun Y hY => aa ?_) | refine aM rfl (ab fun Y hY => aa ?_) | refine ap fun K' hK' => aa ?_);(try clear hK' K');(try dsimp only [aop]);try simp only [go_sem,↓reduceIte,Nat.reduceEqDiff,Nat.reduceLT,Nat.reduceLeDiff,Nat.reduceAdd,Nat.reduceSub,Nat.reduceMul,Nat.reduceBEq,Nat.reduceBNe,Nat.reducePow,Int.reduceToNat,Int.reduceLE,Int.reduceLT,Int.reduceMul,Int.reduceEq,Int.reducePow,Int.reduceAdd,Int.reduceSub,Int.reduceNeg,reduceCtorEq,bG,Tryz.results78,hlt',hfl,hg0,hx0,hk0',hkw]) | (with_reducible first | refine aI ?_ | refine am rfl ?_ | refine ao ?_ | refine bg ?_ ?_ | refine aP ?_ | refine aS ?_ | refine bi fun K hK => ?_ | refine aD ?_ | refine aC ?_ | refine ay ?_ | refine ah ?_ | refine av ?_ | refine aj ?_ | refine bh fun K hK => ?_) | (with_reducible refine hK _ ?_;clear hK K) | (with_reducible refine hK _ _ ?_ ?_;(· kernel_rfl);clear hK K) | ((with_reducible first | refine aF ?_ ?_ | refine ai ?_ ?_);(· decide)) | (with_reducible refine aq tk0 bG ?_ ?_;(· kernel_rfl)) | (with_reducible refine aV ?_ ?_;(· (try and_intros) <;> first | omega | assumption | (simp only [List.length_append,List.length_map,List.length_cons,List.length_nil] <;> omega))) | (with_reducible refine aK (hv1) ?_) | (with_reducible refine aK (hx1) ?_))
   refine bO [1,17,18,19] (by simp only [go_sem,↓reduceIte,Nat.reduceEqDiff,Nat.reduceLT,Nat.reduceLeDiff,Nat.reduceAdd,Nat.reduceSub,Nat.reduceMul,Nat.reduceBEq,Nat.reduceBNe,Nat.reducePow,Int.reduceToNat,Int.reduceLE,Int.reduceLT,Int.reduceMul,Int.reduceEq,Int.reducePow,Int.reduceAdd,Int.reduceSub,Int.reduceNeg,reduceCtorEq];exact rfl) ?_
   exact ih' (by rw [hL1];simp [hx0];omega)
 ·have hlt' : ((k : Int) < (t.length : Int)) = False := eq_false (by omega)
  rw [List.take_of_length_le (by omega)] at hall
  rw [hall,if_pos rfl,dh]
  clear ih
  repeat' (first | (with_reducible refine hY _ ?_;clear hY Y) | ((with_reducible first | refine aX rfl (aR fun K' hK' => aa ?_) | refine hK' _ (ab fun Y hY => aa ?_) | refine ab fun Y hY => aa ?_ | refine ag tk0 bG (ab fun Y hY => aa ?_) | refine aa ?_ | refine aH ?_);(try clear hK' K');(try dsimp only [aop]);try simp only [go_sem,↓reduceIte,Nat.reduceEqDiff,Nat.reduceLT,Nat.reduceLeDiff,Nat.reduceAdd,Nat.reduceSub,Nat.reduceMul,Nat.reduceBEq,Nat.reduceBNe,Nat.reducePow,Int.reduceToNat,Int.reduceLE,Int.reduceLT,Int.reduceMul,Int.reduceEq,Int.reducePow,Int.reduceAdd,Int.reduceSub,Int.reduceNeg,reduceCtorEq,bG,Tryz.results78,hlt']) | (with_reducible first | refine aI ?_ | refine aP ?_ | refine aS ?_ | refine bi fun K hK => ?_ | refine aC ?_ | refine aO ?_ | refine ax ?_ | refine aL ?_ | refine ar ?_) | (with_reducible refine hK _ ?_;clear hK K) | ((with_reducible refine ai ?_ ?_);(· decide)))
end Go.Proofs.YtmpdocplcgbpkaaGreatDoor
namespace Go.Proofs.YtmpdocplcgbpkaaGreatDoor
set_option linter.unusedSimpArgs false
set_option linter.unusedVariables false
open Go.RowKit
end Go.Proofs.YtmpdocplcgbpkaaGreatDoor
namespace Go.Proofs.YtmpdocplcgbpkaaGreatDoor
set_option linter.unusedSimpArgs false
set_option linter.unusedVariables false
end Go.Proofs.YtmpdocplcgbpkaaGreatDoor
namespace Go.Proofs.YtmpdocplcgbpkaaGreatDoor
set_option linter.unusedSimpArgs false
set_option linter.unusedVariables false
open Go.RowKit
end Go.Proofs.YtmpdocplcgbpkaaGreatDoor
namespace Go.Proofs.YtmpdocplcgbpkaaGreatDoor
set_option linter.unusedSimpArgs false
set_option linter.unusedVariables false
def lM (n : Nat) (z : Int) : Bool := decide (z = 0) || decide ((n : Int) < z) || decide (z < -(n : Int))
def mP (ls : List Ln) (z : Int) : Ln := ls.getD (if z < 0 then (-z - 1).toNat else (z - 1).toNat) ⟨0,[]⟩
def jw (ls : List Ln) (z : Int) : Nat × Ln :=
 if z < 0 then (0,mP ls z) else if dc (1 - (mP ls z).c) then (0,⟨1 - (mP ls z).c,c4 (-1) (mP ls z).t⟩) else (3,⟨0,[]⟩)
def g7 (ls : List Ln) : List Int → List Ln → Nat × List Ln
 | [],out => (0,out)
 | z :: r,out => if (jw ls z).1 = 0 then g7 ls r (out ++ [(jw ls z).2]) else ((jw ls z).1,[])
def g8 (ls : List Ln) (zs : List Int) : Nat × List Ln :=
 if ls.any (fun l => !dg l) then (5,[]) else if zs.any (lM ls.length) then (5,[]) else g7 ls zs []
theorem rE {n : Nat} {z : Int} (h : lM n z = false) : z ≠ 0 ∧ z ≤ n ∧ -(n : Int) ≤ z := by
 unfold lM at h
 simp only [Bool.or_eq_false_iff,decide_eq_false_iff_not] at h
 omega
theorem rD {ls : List Ln} {z : Int} (h : lM ls.length z = false) : ∃ i,∃ hi : i < ls.length,mP ls z = ls[i] ∧ (i : Int) = (if z < 0 then -z - 1 else z - 1) := by
 obtain ⟨h1,h2,h3⟩ := rE h
 unfold mP
 by_cases hz : z < 0
 ·rw [if_pos hz,if_pos hz]
  refine ⟨(-z - 1).toNat,by omega,?_,by omega⟩
  rw [List.getD_eq_getElem?_getD,List.getElem?_eq_getElem (by omega)];rfl
 ·rw [if_neg hz,if_neg hz]
  refine ⟨(z - 1).toNat,by omega,?_,by omega⟩
  rw [List.getD_eq_getElem?_getD,List.getElem?_eq_getElem (by omega)];rfl
theorem nl (ls : List Ln) : ∀ (zs : List Int) (out : List Ln),(g7 ls zs out).1 = 0 → (g7 ls zs out).2 = out ++ zs.map (fun z => (jw ls z).2)
 | [],out,_ => by simp [g7]
 | z :: r,out,h => by
  unfold g7 at h ⊢
  split at h
  ·rename_i h1
   rw [if_pos h1,nl ls r _ h]
   simp
  ·rename_i h1
   exact absurd h h1
theorem pB (ls : List Ln) : ∀ (zs : List Int) (out : List Ln),(g7 ls zs out).1 ≠ 0 → (g7 ls zs out).2 = []
 | [],out,h => absurd rfl h
 | z :: r,out,h => by
  unfold g7 at h ⊢
  split at h
  ·rename_i h1
   rw [if_pos h1];exact pB ls r _ h
  ·rename_i h1
   rw [if_neg h1]
theorem uV {ls : List Ln} {zs : List Int} (h : (g8 ls zs).1 = 0) : (∀ l ∈ ls,dg l = true) ∧ (∀ z ∈ zs,lM ls.length z = false) ∧ (g8 ls zs).2 = zs.map (fun z => (jw ls z).2) := by
 unfold g8 at h ⊢
 split at h
 ·cases h
 rename_i h1
 split at h
 ·cases h
 rename_i h2
 rw [if_neg h1,if_neg h2,nl ls zs [] h,List.nil_append]
 simp only [List.any_eq_true,not_exists,not_and,Bool.not_eq_true,Bool.not_eq_false'] at h1 h2
 exact ⟨h1,h2,rfl⟩
theorem mr : ∀ (last : Int) (t : List Tm),db last t = true → db last (c4 (-1) t) = true
 | _,[],h => h
 | last,m :: r,h => by
  have e : c4 (-1) (m :: r) = (m.1,-1 * m.2) :: c4 (-1) r := rfl
  rw [e]
  unfold db at h ⊢
  rw [Bool.and_eq_true] at h ⊢
  refine ⟨?_,mr _ r h.2⟩
  have h1 := h.1
  unfold jE ku dc at h1 ⊢
  simp at h1 ⊢
  omega
end Go.Proofs.YtmpdocplcgbpkaaGreatDoor

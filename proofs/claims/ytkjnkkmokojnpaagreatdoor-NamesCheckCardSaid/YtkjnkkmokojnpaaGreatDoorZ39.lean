/- What is amiss with a program's names, in K: the document's Check. -/
import Derived.Test.YtkjnkkmokojnpaaGreatDoorZ24
import Derived.Test.YtkjnkkmokojnpaaGreatDoorZ15
namespace Go.Proofs.YtkjnkkmokojnpaaGreatDoor
set_option linter.unusedSimpArgs false
set_option linter.unusedVariables false
open Go.RowKit
def D6 (x : PP) : Prop := x.params.length ≤ 50 ∧ x.ghosts.length ≤ 50 ∧ (jK [] x.body).length ≤ 1099511627776 ∧ (vA x.pre).length ≤ 1099511627776 ∧ (vA x.post).length ≤ 1099511627776 ∧ BdS x.body
def oA (l : List Wd) (j : Nat) : Bool := (List.range j).any fun i => (l.take i).contains (l.getD i [])
theorem Aj (l : List Wd) (j : Nat) (h : j < l.length) : oA l (j + 1) = (oA l j || (l.take j).contains l[j]) := by
 unfold oA
 rw [List.range_succ,List.any_append,List.any_cons,List.any_nil,Bool.or_false,List.getD_eq_getElem?_getD,List.getElem?_eq_getElem h]
 rfl
theorem w7 (l : List Wd) : oA l l.length = mO l := by
 rw [Bool.eq_iff_iff,C1]
 unfold oA
 rw [List.any_eq_true]
 constructor
 ·rintro ⟨i,hi,h⟩
  have hi' := List.mem_range.1 hi
  refine ⟨i,hi',?_⟩
  rw [List.getD_eq_getElem?_getD,List.getElem?_eq_getElem hi'] at h
  exact h
 ·rintro ⟨i,hi,h⟩
  refine ⟨i,List.mem_range.2 hi,?_⟩
  rw [List.getD_eq_getElem?_getD,List.getElem?_eq_getElem hi]
  exact h
theorem At {ps : List PP} {k : Nat} (h : k < ps.length) (x : Wd) (hx : ps[k].name = x) : decide (fiP (fun p : PP => p.name == x) ps < (k : Int)) = (ps.take k).any (fun o => o.name == x) := by
 rw [Bool.eq_iff_iff,decide_eq_true_iff,List.any_eq_true]
 cases hf : gB ps x with
 | none =>
  unfold gB at hf
  rw [List.findIdx?_eq_none_iff] at hf
  have := hf ps[k] (List.getElem_mem h)
  rw [hx] at this; simp at this
 | some i =>
  rw [(kT hf).1]
  unfold gB at hf
  rw [List.findIdx?_eq_some_iff_getElem] at hf
  obtain ⟨h1,h2,h3⟩ := hf
  constructor
  ·intro hi
   exact ⟨ps[i],List.mem_take_iff_getElem.2 ⟨i,by omega,rfl⟩,h2⟩
  ·rintro ⟨o,ho,hn⟩
   obtain ⟨j,hj,rfl⟩ := List.mem_take_iff_getElem.1 ho
   apply Classical.byContradiction
   intro hk
   exact h3 j (by omega) hn
theorem wX (ps : List PP) (k : Nat) (h : k < ps.length) : fF ps k (ps.drop k) = if jE ps k ps[k] = 0 then fF ps (k + 1) (ps.drop (k + 1)) else (jE ps k ps[k],(k : Int)) := by
 rw [List.drop_eq_getElem_cons h,fF]
theorem za : ∀ e : PA,(paA e).mapM (eF 3) = some (paA e)
 | .mk _ (.mk _ _ _) (.mk _ _ _ _) (.mk _ _ _ _) _ _ _ => rfl
def ap : Nat → List Nat
 | 0 => [0]
 | 1 => [1]
 | 2 => [1,4]
 | 3 => [4]
 | 4 => [1]
 | 5 => [1,5]
 | 6 => [1,5]
 | 7 => [1,5]
 | 8 => [1,5,6]
 | 9 => [1,5,6,7]
 | 10 => [1,5,6,7]
 | 11 => [1,5,6,7]
 | 12 => [1,5,6,7,8]
 | 13 => [1,5,6,7,8,9]
 | 14 => [1,5,6,7,8,9]
 | 15 => [1,5,6,7,8,9]
 | 16 => [1,5,6,7,8,9,10]
 | 17 => [1,5,6,7,8]
 | 18 => [5]
 | 19 => [1,5,6,7]
 | 20 => [1,5,6,7,11]
 | 21 => [1,5,6,7,11,12]
 | 22 => [1,5,6,7,11,12,13]
 | 23 => [1,5,6,7,11,12,13]
 | 24 => [1,5,6,7,11,12,13]
 | 25 => [1,5,6,7,11,12,13,14]
 | 26 => [1,5,6,7,11]
 | 27 => [1,5,6,7,11,15]
 | 28 => [1,5,6,7,11,15,16]
 | 29 => [1,5,6,7,11,15,16]
 | 30 => [1,5,6,7,11,15,16]
 | 31 => [1,5,6,7,11,15,16,17]
 | 32 => [1,5,6,7,11]
 | 33 => [1,5,6,7,11,15]
 | 34 => [1,5,6,7,11,15,18]
 | 35 => [1,5,6,7,11,15,18]
 | 36 => [1,5,6,7,11,15,18]
 | 37 => [1,5,6,7,11,15,18,19]
 | 38 => [1,5,6,11]
 | 39 => [5]
 | 40 => [1,5,6,11]
 | 41 => [5]
 | 42 => [1,5,6,11]
 | 43 => [5]
 | 44 => []
 | _ => []
set_option maxRecDepth 100000 in
set_option maxHeartbeats 64000000 in
theorem uV (ps : List PP) (hps : kL ps) (hb : ∀ x ∈ ps,D6 x) (hS : AFn Tryz.prog 19 [.agg [dN ps]] [] (inA (eL ps : Int)) []) :
  AFn Tryz.prog 11 [.agg [dN ps]] [] (.tup [inA ((dW ps).1 : Int),inA (dW ps).2]) [] := by
 have hlg := hps.1
 obtain ⟨hpl,hpo⟩ := hps
 unfold Lg at hpl
 have hfl := gw ps
 obtain ⟨E,A,hEA⟩ : ∃ E A,dW ps = (E,A) := ⟨_,_,rfl⟩
 rw [hEA]
 unfold dW at hEA
 refine aM [] Tryz.func11 rfl Tryz.ntmps11 (Nat.le_of_ble_eq_true rfl) (Nat.le_of_ble_eq_true rfl) fun w0 G0 B0 Pr hB0 => ?_
 simp only [aW,aL,List.cons_append,List.nil_append]
 repeat' (first | (with_reducible refine hY _ ?_; clear hY Y) | ((with_reducible first | refine au rfl (ay fun K' hK' => aa ?_) | refine hK' _ (ab fun Y hY => aa ?_)); (try clear hK' K'); (try dsimp only [aop]); try simp only [go_sem,seval,ap,Tryz.results11]) | (with_reducible first | refine ag ?_ | refine am ?_ | refine aG fun K hK => ?_) | ((with_reducible refine bC 1 ?_ ?_); (· rfl)) | ((with_reducible refine aS 1 tk0 ap ?_ (ab fun Y hY => aa ?_)); (· rfl); (try dsimp only [aop]); try simp only [go_sem,seval,ap,Tryz.results11]) | (with_reducible refine hK _ ?_; clear hK K))
 refine dj 10001 ⟨by decide,by decide⟩ rfl rfl (by simp only [go_sem,seval]; exact rfl) (by simp only [go_sem,seval]; exact rfl) ?_
 by_cases hz : eL ps = 0
 case neg =>
  have hz' : ((eL ps : Int) = 0) = False := eq_false (by omega)
  rw [if_neg hz,Prod.mk.injEq] at hEA
  obtain ⟨rfl,rfl⟩ := hEA
  repeat' (first | (with_reducible refine hY _ ?_; clear hY Y) | ((with_reducible first | refine au rfl (ay fun K' hK' => aa ?_) | refine hK' _ (ab fun Y hY => aa ?_) | refine ab fun Y hY => aa ?_ | refine ac tk0 ap (ab fun Y hY => aa ?_) | refine aa ?_ | refine ax ?_); (try clear hK' K'); (try dsimp only [aop]); try simp only [go_sem,seval,ap,Tryz.results11,hz']) | (with_reducible first | refine ag ?_ | refine am ?_ | refine aq ?_ | refine aG fun K hK => ?_ | refine az ?_ | refine bh ?_ | refine aB ?_) | (with_reducible refine hK _ ?_; clear hK K) | ((with_reducible refine ai ?_ ?_); (· decide)) | (with_reducible refine ae (hS) ?_))
  all_goals rfl
 rw [if_pos hz] at hEA
 rw [hz] at hS
 replace hS : AFn Tryz.prog 19 [.agg [dN ps]] [] (inA 0) [] := hS
 repeat' (first | (with_reducible refine hY _ ?_; clear hY Y) | ((with_reducible first | refine au rfl (ay fun K' hK' => aa ?_) | refine hK' _ (ab fun Y hY => aa ?_) | refine ab fun Y hY => aa ?_ | refine ac tk0 ap (ab fun Y hY => aa ?_) | refine aa ?_); (try clear hK' K'); (try dsimp only [aop]); try simp only [go_sem,seval,ap,Tryz.results11]) | (with_reducible first | refine ag ?_ | refine am ?_ | refine aq ?_ | refine aG fun K hK => ?_ | refine aA ?_ | refine av ?_ | refine aH ?_ | refine bR ?_) | (with_reducible refine hK _ ?_; clear hK K) | ((with_reducible refine ai ?_ ?_); (· decide)) | (with_reducible refine ae (hS) ?_))
 clear hS hz
 refine bX (α := Nat) (fun k => [(1,.rf [dN ps] 0),(5,inA (k : Int))])
  (fun k => k ≤ ps.length ∧ fF ps k (ps.drop k) = (E,A)) (fun k => ps.length - k) 0 [1,5] ?_ ⟨Nat.zero_le _,by rw [List.drop_zero]; exact hEA⟩ ?_
 ·simp only [go_sem,seval] <;> rfl
 rintro k ⟨hk,hrec⟩ ih
 by_cases hlt : k < ps.length
 case neg =>
  have hlt' : ((k : Int) < (ps.length : Int)) = False := eq_false (by omega)
  rw [List.drop_eq_nil_of_le (by omega),fF,Prod.mk.injEq] at hrec
  obtain ⟨rfl,rfl⟩ := hrec
  clear ih hb
  repeat' (first | (with_reducible refine hY _ ?_; clear hY Y) | ((with_reducible first | refine au rfl (ay fun K' hK' => aa ?_) | refine hK' _ (ab fun Y hY => aa ?_) | refine ab fun Y hY => aa ?_ | refine ac tk0 ap (ab fun Y hY => aa ?_) | refine aa ?_ | refine ax ?_); (try clear hK' K'); (try dsimp only [aop]); try simp only [go_sem,seval,ap,Tryz.results11,hlt']) | (with_reducible first | refine ag ?_ | refine am ?_ | refine aq ?_ | refine aG fun K hK => ?_ | refine aA ?_ | refine bY ?_ | refine bF ?_ | refine aB ?_ | refine bE ?_) | (with_reducible refine hK _ ?_; clear hK K) | ((with_reducible refine ai ?_ ?_); (· decide)))
  all_goals rfl
 have hlt' : ((k : Int) < (ps.length : Int)) = True := eq_true (by omega)
 have hkw := dp (n := k) (by omega)
 have hg0 := jN hlt
 rw [wX ps k hlt] at hrec
 have hfi := At hlt ps[k].name rfl
 obtain ⟨b1,b2,b3,b4,b5,b6⟩ := hb ps[k] (List.getElem_mem hlt)
 have hox := hpo ps[k] (List.getElem_mem hlt)
 have ihk := fun e => ih (k + 1) ⟨by omega,e⟩ (by omega)
 clear ih hb hpo hEA
 unfold jE at hrec
 generalize hX : ps[k] = X at *
 obtain ⟨_,_,_,hpre,hpost,hbl,hbo⟩ := hox
 have hownl : X.own.length = X.params.length + X.ghosts.length := List.length_append
 have hown : X.own.length ≤ 100 := by omega
 have hownm : X.own.map bs = X.params.map bs ++ X.ghosts.map bs := List.map_append
 have d1 := tZ ps X.name hlg
 have dH : ∀ w,AFn Tryz.prog 26 [.sl (X.own.map bs) X.own.length (.tok 20000),bs w] [.bt X.own.length 9] (.c (.bool (X.own.contains w))) [.bt X.own.length 9] := fun w => lw (args := [.sl (X.own.map bs) X.own.length (.tok 20000),bs w]) (bxs := [.bt X.own.length 9]) (oY X.own w false (by unfold Lg; omega)) rfl
 have d2 := dH oq
 unfold oq at d2
 have d3 := xD ps hlg X.ghosts (by omega) X.body hbl hbo b6 (false,false,false)
 simp only [Bool.false_or] at d3
 have d4 := wV X.body hbl hbo b3
 have d5 := wJ [X.pre] (lg1 _) ⟨hpre,trivial⟩ (by simpa [vAs] using b4) true
 have d6 := wJ [X.post] (lg1 _) ⟨hpost,trivial⟩ (by simpa [vAs] using b5) true
 have d7 := ng X.pre hpre
 have d8 := ng X.post hpost
 have ev1 : vAs [X.pre] = vA X.pre := by simp [vAs]
 have ev2 : vAs [X.post] = vA X.post := by simp [vAs]
 have ep1 : ew [X.pre] = paA X.pre := by simp [ew]
 have ep2 : ew [X.post] = paA X.post := by simp [ew]
 rw [ev1,ep1] at d5
 rw [ev2,ep2] at d6
 simp only [ofB,List.length_cons,List.length_nil,Nat.reduceAdd] at d5 d6
 unfold jx at d7 d8
 clear ev1 ev2 ep1 ep2
 obtain ⟨hx1,hxp,hxl,f0,f1,f2,f3,f18,f33⟩ := nl X
 have nP := (dP X.pre).nm3
 have nQ := (dP X.post).nm3
 have rP := (dP X.pre).rn3
 have rQ := (dP X.post).rn3
 have oP := (um X.pre).1
 have oQ := (um X.post).1
 have uP := za X.pre
 have uQ := za X.post
 have lP := eZ X.pre
 have lQ := eZ X.post
 generalize ppA X = XC at *
 generalize paA X.pre = PA at *
 generalize paA X.post = QA at *
 unfold qi oV vl vI at hrec
 have hdu := w7 X.own
 generalize jK [] X.body = AS at *
 generalize vA X.pre = VP at *
 generalize vA X.post = VQ at *
 generalize (flL X.body).any (stN ps X.ghosts) = f1' at *
 generalize (flL X.body).any (stC ps) = f2' at *
 generalize (flL X.body).any stP = f3' at *
 generalize fE X.pre = g1 at *
 generalize fE X.post = g2 at *
 generalize (ps.take k).any (fun o => o.name == X.name) = a1 at *
 unfold oq at hrec
 generalize hc3 : X.own.contains [114,101,115] = a3 at *
 clear hpre hpost hbl hbo hX b6
 have hok : ∀ n : Nat,n ≠ 0 → (n,(k : Int)) = (E,A) → (.tup [inA (n : Int),inA (k : Int)] : AV) = .tup [inA (E : Int),inA A] := fun n _ h => by rw [Prod.mk.injEq] at h; rw [h.1,h.2]
 repeat' (first | (with_reducible refine hY _ ?_; clear hY Y) | ((with_reducible first | refine au rfl (ay fun K' hK' => aa ?_) | refine hK' _ (ab fun Y hY => aa ?_) | refine ab fun Y hY => aa ?_); (try clear hK' K'); (try dsimp only [aop]); try simp only [go_sem,seval,ap,Tryz.results11,hlt',hg0,hfl,hx1,hxl]) | (with_reducible first | refine ag ?_ | refine am ?_ | refine aG fun K hK => ?_ | refine az ?_ | refine av ?_ | refine aH ?_) | ((with_reducible refine bC 8 ?_ ?_); (· rfl)) | ((with_reducible refine aS 8 tk0 ap ?_ (ab fun Y hY => aa ?_)); (· rfl); (try dsimp only [aop]); try simp only [go_sem,seval,ap,Tryz.results11,hlt',hg0,hfl,hx1,hxl]) | (with_reducible refine hK _ ?_; clear hK K) | ((with_reducible refine ai ?_ ?_); (· decide)) | (with_reducible refine bm ?_ ?_; (· (try and_intros) <;> first | omega | assumption | (simp only [List.length_append,List.length_map,List.length_cons,List.length_nil] <;> omega))))
 refine dj 10006 ⟨by decide,by decide⟩ rfl rfl hxp (by simp only [go_sem,seval]; exact rfl) ?_
 repeat' (first | (with_reducible refine hY _ ?_; clear hY Y) | ((with_reducible first | refine au rfl (ay fun K' hK' => aa ?_) | refine hK' _ (ab fun Y hY => aa ?_)); (try clear hK' K'); (try dsimp only [aop]); try simp only [go_sem,seval,ap,Tryz.results11,hxl,f1,f2]) | (with_reducible first | refine ag ?_ | refine am ?_ | refine aG fun K hK => ?_) | ((with_reducible refine bC 9 ?_ ?_); (· rfl)) | ((with_reducible refine aS 9 tk0 ap ?_ (ab fun Y hY => aa ?_)); (· rfl); (try dsimp only [aop]); try simp only [go_sem,seval,ap,Tryz.results11,hxl,f1,f2]) | (with_reducible refine hK _ ?_; clear hK K))
 refine rq (mF (b := 10040) (t := 7) 9 (by decide) (by decide) rfl rfl) ?_
 repeat' (first | (with_reducible refine hY _ ?_; clear hY Y) | ((with_reducible first | refine au rfl (ay fun K' hK' => aa ?_) | refine hK' _ (ab fun Y hY => aa ?_)); (try clear hK' K'); (try dsimp only [aop]); try simp only [go_sem,seval,ap,Tryz.results11,hxl,f1,f2]) | (with_reducible first | refine ag ?_ | refine am ?_ | refine aG fun K hK => ?_) | ((with_reducible refine bC 11 ?_ ?_); (· rfl)) | ((with_reducible refine aS 11 tk0 ap ?_ (ab fun Y hY => aa ?_)); (· rfl); (try dsimp only [aop]); try simp only [go_sem,seval,ap,Tryz.results11,hxl,f1,f2]) | (with_reducible refine hK _ ?_; clear hK K) | (with_reducible refine bm ?_ ?_; (· (try and_intros) <;> first | omega | assumption | (simp only [List.length_append,List.length_map,List.length_cons,List.length_nil] <;> omega))))
 refine b9 (L := [1,5,6,7]) (σ' := [(1,.rf [dN ps] 0),(5,inA (k : Int)),(6,.rf XC 0),(7,.sl (X.own.map bs) X.own.length (.tok 10040)),(10040,.bt X.own.length 9)]) (by rw [hownm,hownl]; simp only [go_sem,seval] <;> rfl) ?_
 have q1 : a1 = true → (fiP (fun p : PP => p.name == X.name) ps < (k : Int)) = True := fun ha => eq_true (by rw [ha] at hfi; exact of_decide_eq_true hfi)
 have q2 : a1 = false → (fiP (fun p : PP => p.name == X.name) ps < (k : Int)) = False := fun ha => eq_false (by rw [ha] at hfi; exact of_decide_eq_false hfi)
 apply fm (α := Unit) (fun _ => [(1,.rf [dN ps] 0),(5,inA (k : Int)),(6,.rf XC 0),(7,.sl (X.own.map bs) X.own.length (.tok 10040)),(8,.c (.bool (a1 || a3))),(10040,.bt X.own.length 9)]) (fun _ => True)
 case use =>
  intro key
  by_cases ha : a1 = true
  ·have hfi2 := q1 ha
   repeat' (first | (with_reducible refine hY _ ?_; clear hY Y) | ((with_reducible first | refine au rfl (ay fun K' hK' => aa ?_) | refine hK' _ (ab fun Y hY => aa ?_) | refine bf rfl (ab fun Y hY => aa ?_) | refine ab fun Y hY => aa ?_ | refine aa ?_); (try clear hK' K'); (try dsimp only [aop]); try simp only [go_sem,seval,ap,Tryz.results11,hxl,f0,hfi2]) | (with_reducible first | refine ag ?_ | refine aU rfl ?_ | refine cN ?_ ?_ | refine am ?_ | refine aG fun K hK => ?_) | ((with_reducible refine bC 12 ?_ ?_); (· rfl)) | ((with_reducible refine aS 12 tk0 ap ?_ (ab fun Y hY => aa ?_)); (· rfl); (try dsimp only [aop]); try simp only [go_sem,seval,ap,Tryz.results11,hxl,f0,hfi2]) | (with_reducible refine hK _ ?_; clear hK K) | ((with_reducible refine aJ ?_ ?_); (· decide)) | (with_reducible refine ae (d1) ?_))
   refine b9 (L := [1,5,6,7,8]) (by simp only [go_sem,seval]; exact rfl) ?_
   exact jy (key () trivial) (by rw [ha]; rfl)
  ·have ha' : a1 = false := by simpa using ha
   have hfi2 := q2 ha'
   repeat' (first | (with_reducible refine hY _ ?_; clear hY Y) | ((with_reducible first | refine au rfl (ay fun K' hK' => aa ?_) | refine hK' _ (ab fun Y hY => aa ?_) | refine bf rfl (ab fun Y hY => aa ?_) | refine ab fun Y hY => aa ?_ | refine ay fun K' hK' => aa ?_ | refine aa ?_); (try clear hK' K'); (try dsimp only [aop]); try simp only [go_sem,seval,ap,Tryz.results11,hxl,f0,hfi2]) | (with_reducible first | refine ag ?_ | refine aK ?_ | refine am ?_ | refine aG fun K hK => ?_) | ((with_reducible refine bC 12 ?_ ?_); (· rfl)) | ((with_reducible refine aS 12 tk0 ap ?_ (ab fun Y hY => aa ?_)); (· rfl); (try dsimp only [aop]); try simp only [go_sem,seval,ap,Tryz.results11,hxl,f0,hfi2]) | (with_reducible refine hK _ ?_; clear hK K) | ((with_reducible refine aJ ?_ ?_); (· decide)) | (with_reducible refine ae (d1) ?_) | (with_reducible refine ae (d2) ?_))
   refine b9 (L := [1,5,6,7,8]) (by simp only [go_sem,seval]; exact rfl) ?_
   exact jy (key () trivial) (by rw [ha']; rfl)
 case key =>
 rintro _ _
 generalize hB0 : (a1 || a3) = B0 at *
 clear d1 d2 hfi f0 hc3 q1 q2
 repeat' (first | (with_reducible refine hY _ ?_; clear hY Y) | ((with_reducible first | refine au rfl (ay fun K' hK' => aa ?_) | refine hK' _ (ab fun Y hY => aa ?_) | refine ac tk0 ap (ab fun Y hY => aa ?_)); (try clear hK' K'); (try dsimp only [aop]); try simp only [go_sem,seval,ap,Tryz.results11]) | (with_reducible first | refine ag ?_ | refine am ?_ | refine aq ?_ | refine aG fun K hK => ?_ | refine av ?_ | refine bR ?_) | (with_reducible refine hK _ ?_; clear hK K))
 refine bX (α := Nat) (fun j => [(1,.rf [dN ps] 0),(5,inA (k : Int)),(6,.rf XC 0),(7,.sl (X.own.map bs) X.own.length (.tok 10040)),(8,.c (.bool (B0 || oA X.own j))),(9,inA (j : Int)),(10040,.bt X.own.length 9)])
  (fun j => j ≤ X.own.length) (fun j => X.own.length - j) 0 [1,5,6,7,8,9] ?_ (Nat.zero_le _) ?_
 ·simp only [go_sem,seval,oA,List.range_zero,List.any_nil,Bool.or_false] <;> rfl
 intro j hj ihj
 by_cases hjl : j < X.own.length
 ·have hjl' : ((j : Int) < (X.own.length : Int)) = True := eq_true (by omega)
  have hjl2 : ((j : Int) ≤ (X.own.length : Int)) = True := eq_true (by omega)
  have hjw := dp (n := j) (by omega)
  have hj0 := i8 (f := bs) hjl
  have hjf : (X.own.map bs).length = X.own.length := List.length_map ..
  have e1 := oY (X.own.take j) X.own[j] false (by unfold Lg; rw [List.length_take]; omega)
  rw [List.length_take,Nat.min_eq_left (by omega : j ≤ X.own.length),List.map_take] at e1
  simp only [ofB] at e1
  have ihn := ihj (j + 1) (by omega) (by omega)
  rw [Aj _ _ hjl,← Bool.or_assoc] at ihn
  clear ihj dH ihk hrec hok hdu d3 d4 d5 d6 d7 d8
  generalize X.own[j] = w at *
  generalize (X.own.take j).contains w = cj at *
  generalize (B0 || oA X.own j) = B at *
  cases B
  ·repeat' (first | (with_reducible refine hY _ ?_; clear hY Y) | ((with_reducible first | refine au rfl (ay fun K' hK' => aa ?_) | refine hK' _ (ab fun Y hY => aa ?_) | refine bf rfl (ab fun Y hY => aa ?_) | refine ab fun Y hY => aa ?_ | refine ay fun K' hK' => aa ?_ | refine ac tk0 ap (ab fun Y hY => aa ?_) | refine aa ?_ | refine cG rfl (cQ fun K' hK' => aa ?_) | refine hK' _ _ (ab fun Y hY => aa ?_)); (try clear hK' K'); (try dsimp only [aop]); try simp only [go_sem,seval,ap,Tryz.results11,hjl',hjl2,hjw,hj0,hjf]) | (with_reducible first | refine ag ?_ | refine aK ?_ | refine am ?_ | refine aq ?_ | refine aG fun K hK => ?_ | refine az ?_ | refine ba ?_ | refine av ?_ | refine aH ?_ | refine bK ?_ | refine ef fun K hK => ?_) | (with_reducible refine hK _ ?_; clear hK K) | (with_reducible refine hK _ _ ?_ ?_; (· kernel_rfl); clear hK K) | ((with_reducible first | refine aJ ?_ ?_ | refine ai ?_ ?_); (· decide)) | (with_reducible refine bV tk0 ap ?_ ?_; (· kernel_rfl)) | (with_reducible refine bm ?_ ?_; (· (try and_intros) <;> first | omega | assumption | (simp only [List.length_append,List.length_map,List.length_cons,List.length_nil] <;> omega))) | (with_reducible refine ae (e1) ?_))
   refine bg [1,5,6,7,8,9] (by simp only [go_sem,seval]; exact rfl) ?_
   exact db ihn (by simp)
  ·repeat' (first | (with_reducible refine hY _ ?_; clear hY Y) | ((with_reducible first | refine au rfl (ay fun K' hK' => aa ?_) | refine hK' _ (ab fun Y hY => aa ?_) | refine bf rfl (ab fun Y hY => aa ?_) | refine ab fun Y hY => aa ?_ | refine ac tk0 ap (ab fun Y hY => aa ?_) | refine aa ?_ | refine cG rfl (cQ fun K' hK' => aa ?_) | refine hK' _ _ (ab fun Y hY => aa ?_)); (try clear hK' K'); (try dsimp only [aop]); try simp only [go_sem,seval,ap,Tryz.results11,hjl',hjl2,hjw,hj0,hjf]) | (with_reducible first | refine ag ?_ | refine aU rfl ?_ | refine cN ?_ ?_ | refine am ?_ | refine aq ?_ | refine aG fun K hK => ?_ | refine az ?_ | refine ba ?_ | refine av ?_ | refine aH ?_ | refine bK ?_ | refine ef fun K hK => ?_) | (with_reducible refine hK _ ?_; clear hK K) | (with_reducible refine hK _ _ ?_ ?_; (· kernel_rfl); clear hK K) | ((with_reducible first | refine aJ ?_ ?_ | refine ai ?_ ?_); (· decide)) | (with_reducible refine bV tk0 ap ?_ ?_; (· kernel_rfl)) | (with_reducible refine bm ?_ ?_; (· (try and_intros) <;> first | omega | assumption | (simp only [List.length_append,List.length_map,List.length_cons,List.length_nil] <;> omega))) | (with_reducible refine ae (e1) ?_))
   refine bg [1,5,6,7,8,9] (by simp only [go_sem,seval]; exact rfl) ?_
   exact db ihn (by simp)
 have hjl' : ((j : Int) < (X.own.length : Int)) = False := eq_false (by omega)
 rw [show j = X.own.length by omega,hdu]
 replace hjl' : ((X.own.length : Int) < (X.own.length : Int)) = False := eq_false (by omega)
 clear ihj hj hjl hdu
 obtain ⟨tw,htw⟩ : ∃ tw,tw = (B0 || mO X.own) := ⟨_,rfl⟩
 rw [← htw]
 rw [← hB0,Bool.or_assoc] at htw
 rw [← htw] at hrec
 clear htw hB0
 repeat' (first | (with_reducible refine hY _ ?_; clear hY Y) | ((with_reducible first | refine au rfl (ay fun K' hK' => aa ?_) | refine hK' _ (ab fun Y hY => aa ?_) | refine ab fun Y hY => aa ?_); (try clear hK' K'); (try dsimp only [aop]); try simp only [go_sem,seval,ap,Tryz.results11,hjl']) | (with_reducible first | refine ag ?_ | refine am ?_ | refine aG fun K hK => ?_ | refine aA ?_ | refine bY ?_ | refine bF ?_ | refine bE ?_) | ((with_reducible refine bC 17 ?_ ?_); (· rfl)) | ((with_reducible refine aS 17 tk0 ap ?_ (ab fun Y hY => aa ?_)); (· rfl); (try dsimp only [aop]); try simp only [go_sem,seval,ap,Tryz.results11,hjl']) | (with_reducible refine hK _ ?_; clear hK K) | ((with_reducible refine ai ?_ ?_); (· decide)))
 cases tw with
 | true =>
  replace hrec : ((13 : Nat),(k : Int)) = (E,A) := hrec
  repeat' (first | (with_reducible refine hY _ ?_; clear hY Y) | ((with_reducible first | refine au rfl (ay fun K' hK' => aa ?_) | refine hK' _ (ab fun Y hY => aa ?_) | refine ab fun Y hY => aa ?_ | refine ac tk0 ap (ab fun Y hY => aa ?_) | refine aa ?_ | refine ax ?_); (try clear hK' K'); (try dsimp only [aop]); try simp only [go_sem,seval,ap,Tryz.results11]) | (with_reducible first | refine ag ?_ | refine am ?_ | refine aq ?_ | refine aG fun K hK => ?_ | refine az ?_ | refine bh ?_ | refine bp ?_ | refine aB ?_) | (with_reducible refine hK _ ?_; clear hK K) | ((with_reducible refine ai ?_ ?_); (· decide)))
  exact hok 13 (by decide) hrec
 | false =>
 simp only [Bool.false_eq_true,if_false] at hrec
 repeat' (first | (with_reducible refine hY _ ?_; clear hY Y) | ((with_reducible first | refine au rfl (ay fun K' hK' => aa ?_) | refine hK' _ (ab fun Y hY => aa ?_) | refine ab fun Y hY => aa ?_ | refine ac tk0 ap (ab fun Y hY => aa ?_) | refine aa ?_); (try clear hK' K'); (try dsimp only [aop]); try simp only [go_sem,seval,ap,Tryz.results11,hxl,f2,f33]) | (with_reducible first | refine ag ?_ | refine am ?_ | refine aq ?_ | refine aG fun K hK => ?_ | refine aA ?_ | refine av ?_ | refine aH ?_ | refine bR ?_) | (with_reducible refine hK _ ?_; clear hK K) | ((with_reducible refine ai ?_ ?_); (· decide)) | (with_reducible refine ae (d3) ?_) | (with_reducible refine ae (d4) ?_))
 clear d3 d4
 refine bX (α := Nat) (fun j => [(1,.rf [dN ps] 0),(5,inA (k : Int)),(6,.rf XC 0),(7,.sl (X.own.map bs) X.own.length (.tok 10040)),(11,.loc 10011 0),(12,.sl (AS.map bs) AS.length .none),(13,inA (j : Int)),(10011,.bc [.c (.bool (f1' || (AS.take j).any X.own.contains)),.c (.bool f2'),.c (.bool f3')] 69),(10040,.bt X.own.length 9)])
  (fun j => j ≤ AS.length) (fun j => AS.length - j) 0 [1,5,6,7,11,12,13] ?_ (Nat.zero_le _) ?_
 ·simp only [go_sem,seval,List.take_zero,List.any_nil,Bool.or_false] <;> rfl
 intro j hj ihj
 by_cases hjl : j < AS.length
 ·have hjl' : ((j : Int) < (AS.length : Int)) = True := eq_true (by omega)
  have hjw := dp (n := j) (by omega)
  have hj0 := i8 (f := bs) hjl
  have hjf : (AS.map bs).length = AS.length := List.length_map ..
  have e1 := dH AS[j]
  have ihn := ihj (j + 1) (by omega) (by omega)
  rw [mH X.own.contains hjl,← Bool.or_assoc] at ihn
  clear ihj dH ihk hrec hok d5 d6 d7 d8
  generalize AS[j] = w at *
  generalize X.own.contains w = cj at *
  generalize (f1' || (AS.take j).any X.own.contains) = B at *
  cases B
  ·repeat' (first | (with_reducible refine hY _ ?_; clear hY Y) | ((with_reducible first | refine au rfl (ay fun K' hK' => aa ?_) | refine hK' _ (ab fun Y hY => aa ?_) | refine bf rfl (ab fun Y hY => aa ?_) | refine ab fun Y hY => aa ?_ | refine ay fun K' hK' => aa ?_ | refine ac tk0 ap (ab fun Y hY => aa ?_) | refine aa ?_); (try clear hK' K'); (try dsimp only [aop]); try simp only [go_sem,seval,ap,Tryz.results11,hjl',hjw,hj0,hjf]) | (with_reducible first | refine ag ?_ | refine aK ?_ | refine am ?_ | refine aq ?_ | refine aG fun K hK => ?_ | refine az ?_ | refine ba ?_ | refine av ?_ | refine aH ?_) | (with_reducible refine hK _ ?_; clear hK K) | ((with_reducible first | refine aJ ?_ ?_ | refine ai ?_ ?_); (· decide)) | (with_reducible refine bm ?_ ?_; (· (try and_intros) <;> first | omega | assumption | (simp only [List.length_append,List.length_map,List.length_cons,List.length_nil] <;> omega))) | (with_reducible refine ae (e1) ?_))
   refine bg [1,5,6,7,11,12,13] (by simp only [go_sem,seval]; exact rfl) ?_
   exact db ihn (by simp)
  ·repeat' (first | (with_reducible refine hY _ ?_; clear hY Y) | ((with_reducible first | refine au rfl (ay fun K' hK' => aa ?_) | refine hK' _ (ab fun Y hY => aa ?_) | refine bf rfl (ab fun Y hY => aa ?_) | refine ab fun Y hY => aa ?_ | refine ac tk0 ap (ab fun Y hY => aa ?_) | refine aa ?_); (try clear hK' K'); (try dsimp only [aop]); try simp only [go_sem,seval,ap,Tryz.results11,hjl',hjw,hj0,hjf]) | (with_reducible first | refine ag ?_ | refine aU rfl ?_ | refine cN ?_ ?_ | refine am ?_ | refine aq ?_ | refine aG fun K hK => ?_ | refine az ?_ | refine ba ?_ | refine av ?_ | refine aH ?_) | (with_reducible refine hK _ ?_; clear hK K) | ((with_reducible first | refine aJ ?_ ?_ | refine ai ?_ ?_); (· decide)) | (with_reducible refine bm ?_ ?_; (· (try and_intros) <;> first | omega | assumption | (simp only [List.length_append,List.length_map,List.length_cons,List.length_nil] <;> omega))) | (with_reducible refine ae (e1) ?_))
   refine bg [1,5,6,7,11,12,13] (by simp only [go_sem,seval]; exact rfl) ?_
   exact db ihn (by simp)
 have hjl' : ((j : Int) < (AS.length : Int)) = False := eq_false (by omega)
 rw [List.take_of_length_le (by omega)]
 obtain ⟨m1,hm1⟩ : ∃ m,m = (f1' || AS.any X.own.contains) := ⟨_,rfl⟩
 rw [← hm1]
 clear ihj hj hjl
 repeat' (first | (with_reducible refine hY _ ?_; clear hY Y) | ((with_reducible first | refine au rfl (ay fun K' hK' => aa ?_) | refine hK' _ (ab fun Y hY => aa ?_) | refine ab fun Y hY => aa ?_ | refine ac tk0 ap (ab fun Y hY => aa ?_) | refine aa ?_); (try clear hK' K'); (try dsimp only [aop]); try simp only [go_sem,seval,ap,Tryz.results11,hjl',hxl,f3,nP,rP,oP,lP,uP]) | (with_reducible first | refine ag ?_ | refine am ?_ | refine aq ?_ | refine aG fun K hK => ?_ | refine aA ?_ | refine bY ?_ | refine bF ?_ | refine av ?_ | refine bE ?_ | refine bR ?_) | (with_reducible refine hK _ ?_; clear hK K) | ((with_reducible refine ai ?_ ?_); (· decide)) | (with_reducible refine ae (d5) ?_))
 clear d5 hjl'
 refine bX (α := Nat) (fun j => [(1,.rf [dN ps] 0),(5,inA (k : Int)),(6,.rf XC 0),(7,.sl (X.own.map bs) X.own.length (.tok 10040)),(11,.loc 10011 0),(15,.sl (VP.map bs) VP.length .none),(16,inA (j : Int)),(10011,.bc [.c (.bool (m1 || (VP.take j).any (fun w => !X.own.contains w))),.c (.bool f2'),.c (.bool f3')] 69),(10040,.bt X.own.length 9)])
  (fun j => j ≤ VP.length) (fun j => VP.length - j) 0 [1,5,6,7,11,15,16] ?_ (Nat.zero_le _) ?_
 ·simp only [go_sem,seval,List.take_zero,List.any_nil,Bool.or_false] <;> rfl
 intro j hj ihj
 by_cases hjl : j < VP.length
 ·have hjl' : ((j : Int) < (VP.length : Int)) = True := eq_true (by omega)
  have hjw := dp (n := j) (by omega)
  have hj0 := i8 (f := bs) hjl
  have hjf : (VP.map bs).length = VP.length := List.length_map ..
  have e1 := dH VP[j]
  have ihn := ihj (j + 1) (by omega) (by omega)
  rw [mH (fun w => !X.own.contains w) hjl,← Bool.or_assoc] at ihn
  clear ihj dH ihk hrec hok d6 d7 d8
  generalize VP[j] = w at *
  generalize X.own.contains w = cj at *
  generalize (m1 || (VP.take j).any (fun w => !X.own.contains w)) = B at *
  cases B <;> cases cj
  ·repeat' (first | (with_reducible refine hY _ ?_; clear hY Y) | ((with_reducible first | refine au rfl (ay fun K' hK' => aa ?_) | refine hK' _ (ab fun Y hY => aa ?_) | refine bf rfl (ab fun Y hY => aa ?_) | refine ab fun Y hY => aa ?_ | refine ay fun K' hK' => aa ?_ | refine ac tk0 ap (ab fun Y hY => aa ?_) | refine aa ?_); (try clear hK' K'); (try dsimp only [aop]); try simp only [go_sem,seval,ap,Tryz.results11,hjl',hjw,hj0,hjf]) | (with_reducible first | refine ag ?_ | refine aK ?_ | refine am ?_ | refine aq ?_ | refine aG fun K hK => ?_ | refine az ?_ | refine ba ?_ | refine av ?_ | refine aH ?_) | (with_reducible refine hK _ ?_; clear hK K) | ((with_reducible first | refine aJ ?_ ?_ | refine ai ?_ ?_); (· decide)) | (with_reducible refine bm ?_ ?_; (· (try and_intros) <;> first | omega | assumption | (simp only [List.length_append,List.length_map,List.length_cons,List.length_nil] <;> omega))) | (with_reducible refine ae (e1) ?_))
   all_goals refine bg [1,5,6,7,11,15,16] (by simp only [go_sem,seval]; exact rfl) ?_
   all_goals exact db ihn (by simp_all)
  ·repeat' (first | (with_reducible refine hY _ ?_; clear hY Y) | ((with_reducible first | refine au rfl (ay fun K' hK' => aa ?_) | refine hK' _ (ab fun Y hY => aa ?_) | refine bf rfl (ab fun Y hY => aa ?_) | refine ab fun Y hY => aa ?_ | refine ay fun K' hK' => aa ?_ | refine ac tk0 ap (ab fun Y hY => aa ?_) | refine aa ?_); (try clear hK' K'); (try dsimp only [aop]); try simp only [go_sem,seval,ap,Tryz.results11,hjl',hjw,hj0,hjf]) | (with_reducible first | refine ag ?_ | refine aK ?_ | refine am ?_ | refine aq ?_ | refine aG fun K hK => ?_ | refine az ?_ | refine ba ?_ | refine av ?_ | refine aH ?_) | (with_reducible refine hK _ ?_; clear hK K) | ((with_reducible first | refine aJ ?_ ?_ | refine ai ?_ ?_); (· decide)) | (with_reducible refine bm ?_ ?_; (· (try and_intros) <;> first | omega | assumption | (simp only [List.length_append,List.length_map,List.length_cons,List.length_nil] <;> omega))) | (with_reducible refine ae (e1) ?_))
   all_goals refine bg [1,5,6,7,11,15,16] (by simp only [go_sem,seval]; exact rfl) ?_
   all_goals exact db ihn (by simp_all)
  ·repeat' (first | (with_reducible refine hY _ ?_; clear hY Y) | ((with_reducible first | refine au rfl (ay fun K' hK' => aa ?_) | refine hK' _ (ab fun Y hY => aa ?_) | refine bf rfl (ab fun Y hY => aa ?_) | refine ab fun Y hY => aa ?_ | refine ac tk0 ap (ab fun Y hY => aa ?_) | refine aa ?_); (try clear hK' K'); (try dsimp only [aop]); try simp only [go_sem,seval,ap,Tryz.results11,hjl',hjw,hj0,hjf]) | (with_reducible first | refine ag ?_ | refine aU rfl ?_ | refine cN ?_ ?_ | refine am ?_ | refine aq ?_ | refine aG fun K hK => ?_ | refine az ?_ | refine ba ?_ | refine av ?_ | refine aH ?_) | (with_reducible refine hK _ ?_; clear hK K) | ((with_reducible first | refine aJ ?_ ?_ | refine ai ?_ ?_); (· decide)) | (with_reducible refine bm ?_ ?_; (· (try and_intros) <;> first | omega | assumption | (simp only [List.length_append,List.length_map,List.length_cons,List.length_nil] <;> omega))) | (with_reducible refine ae (e1) ?_))
   all_goals refine bg [1,5,6,7,11,15,16] (by simp only [go_sem,seval]; exact rfl) ?_
   all_goals exact db ihn (by simp_all)
  ·repeat' (first | (with_reducible refine hY _ ?_; clear hY Y) | ((with_reducible first | refine au rfl (ay fun K' hK' => aa ?_) | refine hK' _ (ab fun Y hY => aa ?_) | refine bf rfl (ab fun Y hY => aa ?_) | refine ab fun Y hY => aa ?_ | refine ac tk0 ap (ab fun Y hY => aa ?_) | refine aa ?_); (try clear hK' K'); (try dsimp only [aop]); try simp only [go_sem,seval,ap,Tryz.results11,hjl',hjw,hj0,hjf]) | (with_reducible first | refine ag ?_ | refine aU rfl ?_ | refine cN ?_ ?_ | refine am ?_ | refine aq ?_ | refine aG fun K hK => ?_ | refine az ?_ | refine ba ?_ | refine av ?_ | refine aH ?_) | (with_reducible refine hK _ ?_; clear hK K) | ((with_reducible first | refine aJ ?_ ?_ | refine ai ?_ ?_); (· decide)) | (with_reducible refine bm ?_ ?_; (· (try and_intros) <;> first | omega | assumption | (simp only [List.length_append,List.length_map,List.length_cons,List.length_nil] <;> omega))) | (with_reducible refine ae (e1) ?_))
   all_goals refine bg [1,5,6,7,11,15,16] (by simp only [go_sem,seval]; exact rfl) ?_
   all_goals exact db ihn (by simp_all)
 have hjl' : ((j : Int) < (VP.length : Int)) = False := eq_false (by omega)
 rw [List.take_of_length_le (by omega)]
 obtain ⟨m2,hm2⟩ : ∃ m,m = (m1 || VP.any fun w => !X.own.contains w) := ⟨_,rfl⟩
 rw [← hm2]
 clear ihj hj hjl
 repeat' (first | (with_reducible refine hY _ ?_; clear hY Y) | ((with_reducible first | refine au rfl (ay fun K' hK' => aa ?_) | refine hK' _ (ab fun Y hY => aa ?_) | refine ab fun Y hY => aa ?_ | refine ac tk0 ap (ab fun Y hY => aa ?_) | refine aa ?_); (try clear hK' K'); (try dsimp only [aop]); try simp only [go_sem,seval,ap,Tryz.results11,hjl',hxl,f18,nQ,rQ,oQ,lQ,uQ]) | (with_reducible first | refine ag ?_ | refine am ?_ | refine aq ?_ | refine aG fun K hK => ?_ | refine aA ?_ | refine bY ?_ | refine bF ?_ | refine av ?_ | refine bE ?_ | refine bR ?_) | (with_reducible refine hK _ ?_; clear hK K) | ((with_reducible refine ai ?_ ?_); (· decide)) | (with_reducible refine ae (d6) ?_))
 clear d6 hjl'
 refine bX (α := Nat) (fun j => [(1,.rf [dN ps] 0),(5,inA (k : Int)),(6,.rf XC 0),(7,.sl (X.own.map bs) X.own.length (.tok 10040)),(11,.loc 10011 0),(15,.sl (VQ.map bs) VQ.length .none),(18,inA (j : Int)),(10011,.bc [.c (.bool (m2 || (VQ.take j).any (fun w => !X.own.contains w && !(w == [114,101,115])))),.c (.bool f2'),.c (.bool f3')] 69),(10040,.bt X.own.length 9)])
  (fun j => j ≤ VQ.length) (fun j => VQ.length - j) 0 [1,5,6,7,11,15,18] ?_ (Nat.zero_le _) ?_
 ·simp only [go_sem,seval,List.take_zero,List.any_nil,Bool.or_false] <;> rfl
 intro j hj ihj
 by_cases hjl : j < VQ.length
 ·have hjl' : ((j : Int) < (VQ.length : Int)) = True := eq_true (by omega)
  have hjw := dp (n := j) (by omega)
  have hj0 := i8 (f := bs) hjl
  have hjf : (VQ.map bs).length = VQ.length := List.length_map ..
  have e1 := dH VQ[j]
  have ihn := ihj (j + 1) (by omega) (by omega)
  rw [mH (fun w => !X.own.contains w && !(w == [114,101,115])) hjl,← Bool.or_assoc] at ihn
  clear ihj dH ihk hrec hok d7 d8
  generalize VQ[j] = w at *
  generalize X.own.contains w = cj at *
  generalize (m2 || (VQ.take j).any (fun w => !X.own.contains w && !(w == [114,101,115]))) = B at *
  obtain ⟨re,hre⟩ : ∃ r,(w == [114,101,115]) = r := ⟨_,rfl⟩
  rw [hre] at ihn
  cases B <;> cases cj
  ·repeat' (first | (with_reducible refine hY _ ?_; clear hY Y) | ((with_reducible first | refine au rfl (ay fun K' hK' => aa ?_) | refine hK' _ (ab fun Y hY => aa ?_) | refine bf rfl (ab fun Y hY => aa ?_) | refine ab fun Y hY => aa ?_ | refine ay fun K' hK' => aa ?_ | refine ac tk0 ap (ab fun Y hY => aa ?_) | refine aa ?_); (try clear hK' K'); (try dsimp only [aop]); try simp only [go_sem,seval,ap,Tryz.results11,hjl',hjw,hj0,hjf,hre]) | (with_reducible first | refine ag ?_ | refine aK ?_ | refine am ?_ | refine aq ?_ | refine aG fun K hK => ?_ | refine az ?_ | refine ba ?_ | refine av ?_ | refine aH ?_) | (with_reducible refine hK _ ?_; clear hK K) | ((with_reducible first | refine aJ ?_ ?_ | refine ai ?_ ?_); (· decide)) | (with_reducible refine bm ?_ ?_; (· (try and_intros) <;> first | omega | assumption | (simp only [List.length_append,List.length_map,List.length_cons,List.length_nil] <;> omega))) | (with_reducible refine ae (e1) ?_) | (with_reducible refine bv (bW _) ?_))
   all_goals refine bg [1,5,6,7,11,15,18] (by simp only [go_sem,seval]; exact rfl) ?_
   all_goals exact db ihn (by simp_all)
  ·repeat' (first | (with_reducible refine hY _ ?_; clear hY Y) | ((with_reducible first | refine au rfl (ay fun K' hK' => aa ?_) | refine hK' _ (ab fun Y hY => aa ?_) | refine bf rfl (ab fun Y hY => aa ?_) | refine ab fun Y hY => aa ?_ | refine ay fun K' hK' => aa ?_ | refine ac tk0 ap (ab fun Y hY => aa ?_) | refine aa ?_); (try clear hK' K'); (try dsimp only [aop]); try simp only [go_sem,seval,ap,Tryz.results11,hjl',hjw,hj0,hjf,hre]) | (with_reducible first | refine ag ?_ | refine aU rfl ?_ | refine aK ?_ | refine cN ?_ ?_ | refine am ?_ | refine aq ?_ | refine aG fun K hK => ?_ | refine az ?_ | refine ba ?_ | refine av ?_ | refine aH ?_) | (with_reducible refine hK _ ?_; clear hK K) | ((with_reducible first | refine aJ ?_ ?_ | refine ai ?_ ?_); (· decide)) | (with_reducible refine bm ?_ ?_; (· (try and_intros) <;> first | omega | assumption | (simp only [List.length_append,List.length_map,List.length_cons,List.length_nil] <;> omega))) | (with_reducible refine ae (e1) ?_))
   all_goals refine bg [1,5,6,7,11,15,18] (by simp only [go_sem,seval]; exact rfl) ?_
   all_goals exact db ihn (by simp_all)
  ·repeat' (first | (with_reducible refine hY _ ?_; clear hY Y) | ((with_reducible first | refine au rfl (ay fun K' hK' => aa ?_) | refine hK' _ (ab fun Y hY => aa ?_) | refine bf rfl (ab fun Y hY => aa ?_) | refine ab fun Y hY => aa ?_ | refine ac tk0 ap (ab fun Y hY => aa ?_) | refine aa ?_); (try clear hK' K'); (try dsimp only [aop]); try simp only [go_sem,seval,ap,Tryz.results11,hjl',hjw,hj0,hjf,hre]) | (with_reducible first | refine ag ?_ | refine aU rfl ?_ | refine eN ?_ | refine cN ?_ ?_ | refine am ?_ | refine aq ?_ | refine aG fun K hK => ?_ | refine az ?_ | refine ba ?_ | refine av ?_ | refine aH ?_) | (with_reducible refine hK _ ?_; clear hK K) | ((with_reducible first | refine aJ ?_ ?_ | refine ai ?_ ?_); (· decide)) | (with_reducible refine bm ?_ ?_; (· (try and_intros) <;> first | omega | assumption | (simp only [List.length_append,List.length_map,List.length_cons,List.length_nil] <;> omega))) | (with_reducible refine ae (e1) ?_))
   all_goals refine bg [1,5,6,7,11,15,18] (by simp only [go_sem,seval]; exact rfl) ?_
   all_goals exact db ihn (by simp_all)
  ·repeat' (first | (with_reducible refine hY _ ?_; clear hY Y) | ((with_reducible first | refine au rfl (ay fun K' hK' => aa ?_) | refine hK' _ (ab fun Y hY => aa ?_) | refine bf rfl (ab fun Y hY => aa ?_) | refine ab fun Y hY => aa ?_ | refine ac tk0 ap (ab fun Y hY => aa ?_) | refine aa ?_); (try clear hK' K'); (try dsimp only [aop]); try simp only [go_sem,seval,ap,Tryz.results11,hjl',hjw,hj0,hjf,hre]) | (with_reducible first | refine ag ?_ | refine aU rfl ?_ | refine eN ?_ | refine cN ?_ ?_ | refine am ?_ | refine aq ?_ | refine aG fun K hK => ?_ | refine az ?_ | refine ba ?_ | refine av ?_ | refine aH ?_) | (with_reducible refine hK _ ?_; clear hK K) | ((with_reducible first | refine aJ ?_ ?_ | refine ai ?_ ?_); (· decide)) | (with_reducible refine bm ?_ ?_; (· (try and_intros) <;> first | omega | assumption | (simp only [List.length_append,List.length_map,List.length_cons,List.length_nil] <;> omega))) | (with_reducible refine ae (e1) ?_))
   all_goals refine bg [1,5,6,7,11,15,18] (by simp only [go_sem,seval]; exact rfl) ?_
   all_goals exact db ihn (by simp_all)
 have hjl' : ((j : Int) < (VQ.length : Int)) = False := eq_false (by omega)
 rw [List.take_of_length_le (by omega)]
 obtain ⟨m3,hm3⟩ : ∃ m,m = (m2 || VQ.any fun w => !X.own.contains w && !(w == [114,101,115])) := ⟨_,rfl⟩
 rw [← hm3]
 clear ihj hj hjl
 have hm : (f1' || (AS.any (fun w => X.own.contains w) || (VP.any (fun w => !X.own.contains w) || VQ.any (fun w => !X.own.contains w && !(w == [114,101,115]))))) = m3 := by
  rw [hm3,hm2,hm1]; simp only [Bool.or_assoc]
 rw [hm] at hrec
 clear hm hm1 hm2 hm3 dH
 cases m3 with
 | true =>
  replace hrec : ((12 : Nat),(k : Int)) = (E,A) := hrec
  repeat' (first | (with_reducible refine hY _ ?_; clear hY Y) | ((with_reducible first | refine au rfl (ay fun K' hK' => aa ?_) | refine hK' _ (ab fun Y hY => aa ?_) | refine ab fun Y hY => aa ?_ | refine ac tk0 ap (ab fun Y hY => aa ?_) | refine aa ?_ | refine ax ?_); (try clear hK' K'); (try dsimp only [aop]); try simp only [go_sem,seval,ap,Tryz.results11,hjl']) | (with_reducible first | refine ag ?_ | refine am ?_ | refine aq ?_ | refine aG fun K hK => ?_ | refine az ?_ | refine aA ?_ | refine bY ?_ | refine bh ?_ | refine bp ?_ | refine bF ?_ | refine av ?_ | refine aB ?_ | refine bE ?_) | (with_reducible refine hK _ ?_; clear hK K) | ((with_reducible refine ai ?_ ?_); (· decide)))
  all_goals exact hok 12 (by decide) hrec
 | false =>
 cases f2' with
 | true =>
  replace hrec : ((14 : Nat),(k : Int)) = (E,A) := hrec
  repeat' (first | (with_reducible refine hY _ ?_; clear hY Y) | ((with_reducible first | refine au rfl (ay fun K' hK' => aa ?_) | refine hK' _ (ab fun Y hY => aa ?_) | refine ab fun Y hY => aa ?_ | refine ac tk0 ap (ab fun Y hY => aa ?_) | refine aa ?_ | refine ax ?_); (try clear hK' K'); (try dsimp only [aop]); try simp only [go_sem,seval,ap,Tryz.results11,hjl']) | (with_reducible first | refine ag ?_ | refine am ?_ | refine aq ?_ | refine aG fun K hK => ?_ | refine az ?_ | refine aA ?_ | refine bY ?_ | refine bh ?_ | refine bp ?_ | refine bF ?_ | refine av ?_ | refine aB ?_ | refine bE ?_) | (with_reducible refine hK _ ?_; clear hK K) | ((with_reducible refine ai ?_ ?_); (· decide)))
  all_goals exact hok 14 (by decide) hrec
 | false =>
 cases f3' with
 | true =>
  replace hrec : ((1 : Nat),(k : Int)) = (E,A) := hrec
  repeat' (first | (with_reducible refine hY _ ?_; clear hY Y) | ((with_reducible first | refine au rfl (ay fun K' hK' => aa ?_) | refine hK' _ (ab fun Y hY => aa ?_) | refine bf rfl (ab fun Y hY => aa ?_) | refine ab fun Y hY => aa ?_ | refine ac tk0 ap (ab fun Y hY => aa ?_) | refine aa ?_ | refine ax ?_); (try clear hK' K'); (try dsimp only [aop]); try simp only [go_sem,seval,ap,Tryz.results11,hjl']) | (with_reducible first | refine ag ?_ | refine aU rfl ?_ | refine cN ?_ ?_ | refine am ?_ | refine aq ?_ | refine aG fun K hK => ?_ | refine az ?_ | refine aA ?_ | refine bY ?_ | refine bh ?_ | refine bp ?_ | refine bF ?_ | refine av ?_ | refine aB ?_ | refine bE ?_) | (with_reducible refine hK _ ?_; clear hK K) | ((with_reducible first | refine aJ ?_ ?_ | refine ai ?_ ?_); (· decide)))
  all_goals exact hok 1 (by decide) hrec
 | false =>
 cases g1 with
 | true =>
  replace hrec : ((1 : Nat),(k : Int)) = (E,A) := hrec
  repeat' (first | (with_reducible refine hY _ ?_; clear hY Y) | ((with_reducible first | refine au rfl (ay fun K' hK' => aa ?_) | refine hK' _ (ab fun Y hY => aa ?_) | refine bf rfl (ab fun Y hY => aa ?_) | refine ab fun Y hY => aa ?_ | refine ay fun K' hK' => aa ?_ | refine ac tk0 ap (ab fun Y hY => aa ?_) | refine aa ?_ | refine ax ?_); (try clear hK' K'); (try dsimp only [aop]); try simp only [go_sem,seval,ap,Tryz.results11,hjl',hxl,f3,nP,rP]) | (with_reducible first | refine ag ?_ | refine aU rfl ?_ | refine aK ?_ | refine cN ?_ ?_ | refine am ?_ | refine aq ?_ | refine aG fun K hK => ?_ | refine az ?_ | refine aA ?_ | refine bY ?_ | refine bh ?_ | refine bp ?_ | refine bF ?_ | refine av ?_ | refine aB ?_ | refine bE ?_) | (with_reducible refine hK _ ?_; clear hK K) | ((with_reducible first | refine aJ ?_ ?_ | refine ai ?_ ?_); (· decide)) | (with_reducible refine ae (d7) ?_))
  all_goals exact hok 1 (by decide) hrec
 | false =>
 cases g2 with
 | true =>
  replace hrec : ((1 : Nat),(k : Int)) = (E,A) := hrec
  repeat' (first | (with_reducible refine hY _ ?_; clear hY Y) | ((with_reducible first | refine au rfl (ay fun K' hK' => aa ?_) | refine hK' _ (ab fun Y hY => aa ?_) | refine bf rfl (ab fun Y hY => aa ?_) | refine ab fun Y hY => aa ?_ | refine ay fun K' hK' => aa ?_ | refine ac tk0 ap (ab fun Y hY => aa ?_) | refine aa ?_ | refine ax ?_); (try clear hK' K'); (try dsimp only [aop]); try simp only [go_sem,seval,ap,Tryz.results11,hjl',hxl,f3,f18,nP,rP,nQ,rQ]) | (with_reducible first | refine ag ?_ | refine aK ?_ | refine am ?_ | refine aq ?_ | refine aG fun K hK => ?_ | refine az ?_ | refine aA ?_ | refine bY ?_ | refine bh ?_ | refine bp ?_ | refine bF ?_ | refine av ?_ | refine aB ?_ | refine bE ?_) | (with_reducible refine hK _ ?_; clear hK K) | ((with_reducible first | refine aJ ?_ ?_ | refine ai ?_ ?_); (· decide)) | (with_reducible refine ae (d7) ?_) | (with_reducible refine ae (d8) ?_))
  all_goals exact hok 1 (by decide) hrec
 | false =>
 replace hrec : fF ps (k + 1) (ps.drop (k + 1)) = (E,A) := hrec
 repeat' (first | (with_reducible refine hY _ ?_; clear hY Y) | ((with_reducible first | refine au rfl (ay fun K' hK' => aa ?_) | refine hK' _ (ab fun Y hY => aa ?_) | refine bf rfl (ab fun Y hY => aa ?_) | refine ab fun Y hY => aa ?_ | refine ay fun K' hK' => aa ?_ | refine ac tk0 ap (ab fun Y hY => aa ?_) | refine aa ?_); (try clear hK' K'); (try dsimp only [aop]); try simp only [go_sem,seval,ap,Tryz.results11,hjl',hkw,hxl,f3,f18,nP,rP,nQ,rQ]) | (with_reducible first | refine ag ?_ | refine aK ?_ | refine am ?_ | refine aq ?_ | refine aG fun K hK => ?_ | refine aA ?_ | refine bY ?_ | refine ba ?_ | refine bF ?_ | refine av ?_ | refine aH ?_ | refine bE ?_) | (with_reducible refine hK _ ?_; clear hK K) | ((with_reducible first | refine aJ ?_ ?_ | refine ai ?_ ?_); (· decide)) | (with_reducible refine ae (d7) ?_) | (with_reducible refine ae (d8) ?_))
 refine bg [1,5] (by simp only [go_sem,seval]; exact rfl) ?_
 exact ihk hrec
end Go.Proofs.YtkjnkkmokojnpaaGreatDoor

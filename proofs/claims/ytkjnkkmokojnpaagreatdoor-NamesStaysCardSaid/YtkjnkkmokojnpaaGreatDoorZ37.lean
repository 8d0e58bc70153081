/- Which programs can be shown, in K: the document's Check. -/
import Derived.Test.YtkjnkkmokojnpaaGreatDoorZ35
import Derived.Test.YtkjnkkmokojnpaaGreatDoorZ13
import Derived.Test.YtkjnkkmokojnpaaGreatDoorZ14
import Derived.Test.YtkjnkkmokojnpaaGreatDoorZ34
namespace Go.Proofs.YtkjnkkmokojnpaaGreatDoor
set_option linter.unusedSimpArgs false
set_option linter.unusedVariables false
open Go.RowKit
def aC : Nat → List Nat
 | 0 => [0]
 | 1 => [1]
 | 2 => [1,3]
 | 3 => [1,3]
 | 4 => [1,3]
 | 5 => [1,3,4]
 | 6 => []
 | 7 => [1,3,4]
 | 8 => [1,3,4,5]
 | 9 => [1,3,4,5]
 | 10 => [1,3,4,5]
 | 11 => []
 | 12 => [1]
 | 13 => [1,6]
 | 14 => [1,6]
 | 15 => [1,6]
 | 16 => [1,6,7]
 | 17 => [1,6,7,8]
 | 18 => []
 | 19 => []
 | _ => []
set_option maxRecDepth 100000 in
set_option maxHeartbeats 16000000 in
theorem xq (hst : ∀ l,Lg l → gr l → AFn Tryz.prog 51 [.sl (du l) l.length .none] [] (.c (.bool (ig l))) []) (ps : List PP) (hps : kL ps) : AFn Tryz.prog 19 [.agg [dN ps]] [] (inA (eL ps : Int)) [] := by
 obtain ⟨hpl,hpo⟩ := hps
 unfold Lg at hpl
 have hfl := gw ps
 obtain ⟨R,hR⟩ : ∃ R,R = eL ps := ⟨_,rfl⟩
 rw [← hR]
 unfold eL at hR
 refine aM [] Tryz.func19 rfl Tryz.ntmps19 (Nat.le_of_ble_eq_true rfl) (Nat.le_of_ble_eq_true rfl) fun w0 G0 B0 Pr hB0 => ?_
 simp only [aW,aL,List.cons_append,List.nil_append]
 repeat' (first | (with_reducible refine hY _ ?_; clear hY Y) | ((with_reducible first | refine au rfl (ay fun K' hK' => aa ?_) | refine hK' _ (ab fun Y hY => aa ?_)); (try clear hK' K'); (try dsimp only [aop]); try simp only [go_sem,seval,aC,Tryz.results19]) | (with_reducible first | refine ag ?_ | refine am ?_ | refine aG fun K hK => ?_) | ((with_reducible refine bC 1 ?_ ?_); (· rfl)) | ((with_reducible refine aS 1 tk0 aC ?_ (ab fun Y hY => aa ?_)); (· rfl); (try dsimp only [aop]); try simp only [go_sem,seval,aC,Tryz.results19]) | (with_reducible refine hK _ ?_; clear hK K))
 refine dj 10001 ⟨by decide,by decide⟩ rfl rfl (by simp only [go_sem,seval]; exact rfl) (by simp only [go_sem,seval]; exact rfl) ?_
 repeat' (first | (with_reducible refine hY _ ?_; clear hY Y) | ((with_reducible first | refine au rfl (ay fun K' hK' => aa ?_) | refine hK' _ (ab fun Y hY => aa ?_) | refine ac tk0 aC (ab fun Y hY => aa ?_)); (try clear hK' K'); (try dsimp only [aop]); try simp only [go_sem,seval,aC,Tryz.results19]) | (with_reducible first | refine ag ?_ | refine am ?_ | refine aq ?_ | refine aG fun K hK => ?_ | refine av ?_ | refine bR ?_) | (with_reducible refine hK _ ?_; clear hK K))
 refine bX (α := Nat) (fun k => [(1,.rf [dN ps] 0),(3,inA (k : Int))])
  (fun k => k ≤ ps.length ∧ ∀ j (hj : j < ps.length),j < k → eO ps[j] = false) (fun k => ps.length - k) 0 [1,3] ?_ ⟨Nat.zero_le _,fun j _ hj => absurd hj (Nat.not_lt_zero _)⟩ ?_
 ·simp only [go_sem,seval] <;> rfl
 rintro k ⟨hk,hall⟩ ih
 by_cases hlt : k < ps.length
 ·have hlt' : ((k : Int) < (ps.length : Int)) = True := eq_true (by omega)
  have hkw := dp (n := k) (by omega)
  have hg0 := jN hlt
  have hox := hpo ps[k] (List.getElem_mem hlt)
  have hyes : eO ps[k] = true → R = 4 := fun e => by rw [hR,uO hlt e]; rfl
  have hnx : eO ps[k] = false → ∀ j (hj : j < ps.length),j < k + 1 → eO ps[j] = false := mD (q := fun x => eO x = false) hlt hall
  generalize ps[k] = x at *
  obtain ⟨_,_,_,hpre,hpost,hbl,hbo⟩ := hox
  unfold Lg at hbl
  have c1 : AFn Tryz.prog 46 [.agg (paA x.pre),inA 100] [] (inA (dA 100 x.pre : Int)) [] := mL 100 (by decide) x.pre hpre
  have c2 : AFn Tryz.prog 46 [.agg (paA x.post),inA 100] [] (inA (dA 100 x.post : Int)) [] := mL 100 (by decide) x.post hpost
  have w1 : decide ((100 : Int) < (dA 100 x.pre : Int)) = fW 100 x.pre := by rw [Bool.eq_iff_iff,decide_eq_true_iff,lz]; omega
  have w2 : decide ((100 : Int) < (dA 100 x.post : Int)) = fW 100 x.post := by rw [Bool.eq_iff_iff,decide_eq_true_iff,lz]; omega
  unfold eO at hyes hnx
  have nP := (dP x.pre).nm3
  have nQ := (dP x.post).nm3
  have rP := (dP x.pre).rn3
  have rQ := (dP x.post).rn3
  obtain ⟨hx1,hxp,hxl,f0,f1,f2,f3,f18,f33⟩ := nl x
  generalize ppA x = XC at *
  generalize paA x.pre = PA at *
  generalize paA x.post = QA at *
  generalize fW 100 x.pre = p1 at *
  generalize fW 100 x.post = p2 at *
  generalize dA 100 x.pre = q1 at *
  generalize dA 100 x.post = q2 at *
  clear hpo hpre hpost hR hall f0 f1 f2
  repeat' (first | (with_reducible refine hY _ ?_; clear hY Y) | ((with_reducible first | refine au rfl (ay fun K' hK' => aa ?_) | refine hK' _ (ab fun Y hY => aa ?_) | refine ab fun Y hY => aa ?_); (try clear hK' K'); (try dsimp only [aop]); try simp only [go_sem,seval,aC,Tryz.results19,hlt',hg0,hfl,hkw,hx1,hxl]) | (with_reducible first | refine ag ?_ | refine am ?_ | refine aG fun K hK => ?_ | refine az ?_ | refine av ?_ | refine aH ?_) | ((with_reducible refine bC 5 ?_ ?_); (· rfl)) | ((with_reducible refine aS 5 tk0 aC ?_ (ab fun Y hY => aa ?_)); (· rfl); (try dsimp only [aop]); try simp only [go_sem,seval,aC,Tryz.results19,hlt',hg0,hfl,hkw,hx1,hxl]) | (with_reducible refine hK _ ?_; clear hK K) | ((with_reducible refine ai ?_ ?_); (· decide)) | (with_reducible refine bm ?_ ?_; (· (try and_intros) <;> first | omega | assumption | (simp only [List.length_append,List.length_map,List.length_cons,List.length_nil] <;> omega))))
  refine dj 10004 ⟨by decide,by decide⟩ rfl rfl hxp (by simp only [go_sem,seval]; exact rfl) ?_
  cases p1 with
  | true =>
   clear ih hnx
   rw [hyes (by simp)]
   repeat' (first | (with_reducible refine hY _ ?_; clear hY Y) | ((with_reducible first | refine au rfl (ay fun K' hK' => aa ?_) | refine hK' _ (ab fun Y hY => aa ?_) | refine bf rfl (ab fun Y hY => aa ?_) | refine ab fun Y hY => aa ?_ | refine ac tk0 aC (ab fun Y hY => aa ?_) | refine aa ?_ | refine ax ?_); (try clear hK' K'); (try dsimp only [aop]); try simp only [go_sem,seval,aC,Tryz.results19,hxl,f3,f18,f33,nP,nQ,rP,rQ,hkw,w1,w2]) | (with_reducible first | refine ag ?_ | refine aU rfl ?_ | refine cN ?_ ?_ | refine am ?_ | refine aq ?_ | refine aG fun K hK => ?_ | refine az ?_ | refine bh ?_ | refine bp ?_ | refine aB ?_) | (with_reducible refine hK _ ?_; clear hK K) | ((with_reducible first | refine aJ ?_ ?_ | refine ai ?_ ?_); (· decide)) | (with_reducible refine ae (c1) ?_))
   all_goals rfl
  | false =>
   cases p2 with
   | true =>
    clear ih hnx
    rw [hyes (by simp)]
    repeat' (first | (with_reducible refine hY _ ?_; clear hY Y) | ((with_reducible first | refine au rfl (ay fun K' hK' => aa ?_) | refine hK' _ (ab fun Y hY => aa ?_) | refine bf rfl (ab fun Y hY => aa ?_) | refine ab fun Y hY => aa ?_ | refine ay fun K' hK' => aa ?_ | refine ac tk0 aC (ab fun Y hY => aa ?_) | refine aa ?_ | refine ax ?_); (try clear hK' K'); (try dsimp only [aop]); try simp only [go_sem,seval,aC,Tryz.results19,hxl,f3,f18,f33,nP,nQ,rP,rQ,hkw,w1,w2]) | (with_reducible first | refine ag ?_ | refine aK ?_ | refine am ?_ | refine aq ?_ | refine aG fun K hK => ?_ | refine az ?_ | refine bh ?_ | refine bp ?_ | refine aB ?_) | (with_reducible refine hK _ ?_; clear hK K) | ((with_reducible first | refine aJ ?_ ?_ | refine ai ?_ ?_); (· decide)) | (with_reducible refine ae (c1) ?_) | (with_reducible refine ae (c2) ?_))
    all_goals rfl
   | false =>
    repeat' (first | (with_reducible refine hY _ ?_; clear hY Y) | ((with_reducible first | refine au rfl (ay fun K' hK' => aa ?_) | refine hK' _ (ab fun Y hY => aa ?_) | refine bf rfl (ab fun Y hY => aa ?_) | refine ab fun Y hY => aa ?_ | refine ay fun K' hK' => aa ?_ | refine ac tk0 aC (ab fun Y hY => aa ?_) | refine aa ?_); (try clear hK' K'); (try dsimp only [aop]); try simp only [go_sem,seval,aC,Tryz.results19,hxl,f3,f18,f33,nP,nQ,rP,rQ,hkw,w1,w2]) | (with_reducible first | refine ag ?_ | refine aK ?_ | refine am ?_ | refine aq ?_ | refine aG fun K hK => ?_ | refine aA ?_ | refine av ?_ | refine aH ?_ | refine bR ?_) | (with_reducible refine hK _ ?_; clear hK K) | ((with_reducible first | refine aJ ?_ ?_ | refine ai ?_ ?_); (· decide)) | (with_reducible refine ae (c1) ?_) | (with_reducible refine ae (c2) ?_))
    clear c1 c2 w1 w2
    refine bX (α := Nat) (fun j => [(1,.rf [dN ps] 0),(3,inA (k : Int)),(4,.rf XC 0),(5,inA (j : Int))])
     (fun j => j ≤ x.body.length ∧ ∀ i (hi : i < x.body.length),i < j → fA 100 x.body[i] = false) (fun j => x.body.length - j) 0 [1,3,4,5] ?_ ⟨Nat.zero_le _,fun i _ hi => absurd hi (Nat.not_lt_zero _)⟩ ?_
    ·simp only [go_sem,seval] <;> rfl
    rintro j ⟨hj,hjal⟩ ihj
    by_cases hjl : j < x.body.length
    ·have hjl' : ((j : Int) < (x.body.length : Int)) = True := eq_true (by omega)
     have hjw := dp (n := j) (by omega)
     have hj0 := jp hjl
     have hjf := gx x.body
     have hjo := fy hbo x.body[j] (List.getElem_mem hjl)
     have c3 : AFn Tryz.prog 47 [.agg (psA x.body[j]),inA 100] [] (inA (dS 100 x.body[j] : Int)) [] := tW 100 (by decide) x.body[j] hjo
     have w3 : decide ((100 : Int) < (dS 100 x.body[j] : Int)) = fA 100 x.body[j] := by rw [Bool.eq_iff_iff,decide_eq_true_iff,nX]; omega
     have hy : fA 100 x.body[j] = true → R = 4 := fun e => hyes (by rw [uO hjl e]; rfl)
     have hn : fA 100 x.body[j] = false → ∀ i (hi : i < x.body.length),i < j + 1 → fA 100 x.body[i] = false := mD (q := fun s => fA 100 s = false) hjl hjal
     have one := (CI x.body[j]).1
     have len := kv x.body[j]
     generalize dS 100 x.body[j] = q3 at *
     generalize fA 100 x.body[j] = p3 at *
     have nS := (wz x.body[j]).nm3
     have rS := (wz x.body[j]).rn3
     generalize psA x.body[j] = SC at *
     clear hjo hjal hyes hnx ih
     cases p3 with
     | true =>
      clear ihj hn
      rw [hy rfl]
      repeat' (first | (with_reducible refine hY _ ?_; clear hY Y) | ((with_reducible first | refine au rfl (ay fun K' hK' => aa ?_) | refine hK' _ (ab fun Y hY => aa ?_) | refine ab fun Y hY => aa ?_ | refine ac tk0 aC (ab fun Y hY => aa ?_) | refine aa ?_ | refine ax ?_); (try clear hK' K'); (try dsimp only [aop]); try simp only [go_sem,seval,aC,Tryz.results19,hxl,f33,hjl',hj0,hjf,hjw,one,len,nS,rS,w3]) | (with_reducible first | refine ag ?_ | refine am ?_ | refine aq ?_ | refine aG fun K hK => ?_ | refine az ?_ | refine bh ?_ | refine bp ?_ | refine av ?_ | refine aH ?_ | refine aB ?_) | (with_reducible refine hK _ ?_; clear hK K) | ((with_reducible refine ai ?_ ?_); (· decide)) | (with_reducible refine bm ?_ ?_; (· (try and_intros) <;> first | omega | assumption | (simp only [List.length_append,List.length_map,List.length_cons,List.length_nil] <;> omega))) | (with_reducible refine ae (c3) ?_))
      all_goals rfl
     | false =>
      repeat' (first | (with_reducible refine hY _ ?_; clear hY Y) | ((with_reducible first | refine au rfl (ay fun K' hK' => aa ?_) | refine hK' _ (ab fun Y hY => aa ?_) | refine ab fun Y hY => aa ?_ | refine ac tk0 aC (ab fun Y hY => aa ?_) | refine aa ?_); (try clear hK' K'); (try dsimp only [aop]); try simp only [go_sem,seval,aC,Tryz.results19,hxl,f33,hjl',hj0,hjf,hjw,one,len,nS,rS,w3]) | (with_reducible first | refine ag ?_ | refine am ?_ | refine aq ?_ | refine aG fun K hK => ?_ | refine az ?_ | refine aA ?_ | refine ba ?_ | refine av ?_ | refine aH ?_) | (with_reducible refine hK _ ?_; clear hK K) | ((with_reducible refine ai ?_ ?_); (· decide)) | (with_reducible refine bm ?_ ?_; (· (try and_intros) <;> first | omega | assumption | (simp only [List.length_append,List.length_map,List.length_cons,List.length_nil] <;> omega))) | (with_reducible refine ae (c3) ?_))
      refine bg [1,3,4,5] (by simp only [go_sem,seval]; exact rfl) ?_
      exact ihj (j + 1) ⟨by omega,hn rfl⟩ (by omega)
    have hjl' : ((j : Int) < (x.body.length : Int)) = False := eq_false (by omega)
    have hnb : x.body.any (fA 100) = false := sd fun i hi => hjal i hi (by omega)
    clear ihj hjal hyes
    repeat' (first | (with_reducible refine hY _ ?_; clear hY Y) | ((with_reducible first | refine au rfl (ay fun K' hK' => aa ?_) | refine hK' _ (ab fun Y hY => aa ?_) | refine ab fun Y hY => aa ?_ | refine ac tk0 aC (ab fun Y hY => aa ?_)); (try clear hK' K'); (try dsimp only [aop]); try simp only [go_sem,seval,aC,Tryz.results19,hxl,f33,hjl',hkw]) | (with_reducible first | refine ag ?_ | refine am ?_ | refine aq ?_ | refine aG fun K hK => ?_ | refine aA ?_ | refine bY ?_ | refine ba ?_ | refine bF ?_ | refine bE ?_) | (with_reducible refine hK _ ?_; clear hK K) | ((with_reducible refine ai ?_ ?_); (· decide)))
    refine bg [1,3] (by simp only [go_sem,seval]; exact rfl) ?_
    exact ih (k + 1) ⟨by omega,hnx (by rw [hnb]; rfl)⟩ (by omega)
 have hlt' : ((k : Int) < (ps.length : Int)) = False := eq_false (by omega)
 have hnd : ps.any eO = false := sd fun j hj => hall j hj (by omega)
 rw [hnd,if_neg (by decide)] at hR
 clear ih hall hnd
 repeat' (first | (with_reducible refine hY _ ?_; clear hY Y) | ((with_reducible first | refine au rfl (ay fun K' hK' => aa ?_) | refine hK' _ (ab fun Y hY => aa ?_) | refine ab fun Y hY => aa ?_ | refine ac tk0 aC (ab fun Y hY => aa ?_)); (try clear hK' K'); (try dsimp only [aop]); try simp only [go_sem,seval,aC,Tryz.results19,hlt']) | (with_reducible first | refine ag ?_ | refine am ?_ | refine aq ?_ | refine aG fun K hK => ?_ | refine aA ?_ | refine bY ?_ | refine bF ?_ | refine av ?_ | refine bE ?_ | refine bR ?_) | (with_reducible refine hK _ ?_; clear hK K) | ((with_reducible refine ai ?_ ?_); (· decide)))
 clear hlt hlt' hk k
 refine bX (α := Nat) (fun k => [(1,.rf [dN ps] 0),(6,inA (k : Int))])
  (fun k => k ≤ ps.length ∧ ∀ j (hj : j < ps.length),j < k → fz ps[j] = true) (fun k => ps.length - k) 0 [1,6] ?_ ⟨Nat.zero_le _,fun j _ hj => absurd hj (Nat.not_lt_zero _)⟩ ?_
 ·simp only [go_sem,seval] <;> rfl
 rintro k ⟨hk,hall⟩ ih
 by_cases hlt : k < ps.length
 ·have hlt' : ((k : Int) < (ps.length : Int)) = True := eq_true (by omega)
  have hkw := dp (n := k) (by omega)
  have hg0 := jN hlt
  have hox := hpo ps[k] (List.getElem_mem hlt)
  have hyes : fz ps[k] = false → R = 5 := fun e => by rw [hR,xW hlt e]; rfl
  have hnx : fz ps[k] = true → ∀ j (hj : j < ps.length),j < k + 1 → fz ps[j] = true := mD (q := fun x => fz x = true) hlt hall
  generalize ps[k] = x at *
  obtain ⟨hnm,hpr,hgh,hpre,hpost,hbl,hbo⟩ := hox
  unfold Lg at hnm
  have c1 := kx x.name (by omega)
  have c2 := ol x.params hpr
  have c3 := ol x.ghosts hgh
  have c4 := mI x.pre hpre
  have c5 := mI x.post hpost
  have c6 := hst x.body hbl hbo
  unfold jt at c4 c5
  unfold fz at hyes hnx
  have nP := (dP x.pre).nm3
  have nQ := (dP x.post).nm3
  have rP := (dP x.pre).rn3
  have rQ := (dP x.post).rn3
  obtain ⟨hx1,hxp,hxl,f0,f1,f2,f3,f18,f33⟩ := nl x
  generalize ppA x = XC at *
  generalize paA x.pre = PA at *
  generalize paA x.post = QA at *
  generalize du x.body = BA at *
  generalize x.body.length = bl at *
  generalize x.params.map bs = MA at *
  generalize x.params.length = ml at *
  generalize x.ghosts.map bs = GA at *
  generalize x.ghosts.length = gl at *
  generalize dM x.name = p1 at *
  generalize fR x.params = p2 at *
  generalize fR x.ghosts = p3 at *
  generalize seA x.pre = p4 at *
  generalize seA x.post = p5 at *
  generalize ig x.body = p6 at *
  clear hpo hpre hpost hbl hbo hR hall hnm hpr hgh
  repeat' (first | (with_reducible refine hY _ ?_; clear hY Y) | ((with_reducible first | refine au rfl (ay fun K' hK' => aa ?_) | refine hK' _ (ab fun Y hY => aa ?_) | refine ab fun Y hY => aa ?_); (try clear hK' K'); (try dsimp only [aop]); try simp only [go_sem,seval,aC,Tryz.results19,hlt',hg0,hfl,hkw,hx1,hxl]) | (with_reducible first | refine ag ?_ | refine am ?_ | refine aG fun K hK => ?_ | refine az ?_ | refine av ?_ | refine aH ?_) | ((with_reducible refine bC 16 ?_ ?_); (· rfl)) | ((with_reducible refine aS 16 tk0 aC ?_ (ab fun Y hY => aa ?_)); (· rfl); (try dsimp only [aop]); try simp only [go_sem,seval,aC,Tryz.results19,hlt',hg0,hfl,hkw,hx1,hxl]) | (with_reducible refine hK _ ?_; clear hK K) | ((with_reducible refine ai ?_ ?_); (· decide)) | (with_reducible refine bm ?_ ?_; (· (try and_intros) <;> first | omega | assumption | (simp only [List.length_append,List.length_map,List.length_cons,List.length_nil] <;> omega))))
  refine dj 10007 ⟨by decide,by decide⟩ rfl rfl hxp (by simp only [go_sem,seval]; exact rfl) ?_
  cases p1 with
  | false =>
   clear ih hnx
   rw [hyes (by simp)]
   repeat' (first | (with_reducible refine hY _ ?_; clear hY Y) | ((with_reducible first | refine au rfl (ay fun K' hK' => aa ?_) | refine hK' _ (ab fun Y hY => aa ?_) | refine bf rfl (ab fun Y hY => aa ?_) | refine ab fun Y hY => aa ?_ | refine ac tk0 aC (ab fun Y hY => aa ?_) | refine aa ?_ | refine ax ?_); (try clear hK' K'); (try dsimp only [aop]); try simp only [go_sem,seval,aC,Tryz.results19,hxl,f0,f1,f2,f3,f18,f33,nP,nQ,rP,rQ,hkw]) | (with_reducible first | refine ag ?_ | refine aU rfl ?_ | refine cN ?_ ?_ | refine am ?_ | refine aq ?_ | refine aG fun K hK => ?_ | refine az ?_ | refine bh ?_ | refine bp ?_ | refine aB ?_) | (with_reducible refine hK _ ?_; clear hK K) | ((with_reducible first | refine aJ ?_ ?_ | refine ai ?_ ?_); (· decide)) | (with_reducible refine ae (c1) ?_))
   all_goals rfl
  | true =>
   cases p2 with
   | false =>
    clear ih hnx
    rw [hyes (by simp)]
    repeat' (first | (with_reducible refine hY _ ?_; clear hY Y) | ((with_reducible first | refine au rfl (ay fun K' hK' => aa ?_) | refine hK' _ (ab fun Y hY => aa ?_) | refine bf rfl (ab fun Y hY => aa ?_) | refine ab fun Y hY => aa ?_ | refine ay fun K' hK' => aa ?_ | refine ac tk0 aC (ab fun Y hY => aa ?_) | refine aa ?_ | refine ax ?_); (try clear hK' K'); (try dsimp only [aop]); try simp only [go_sem,seval,aC,Tryz.results19,hxl,f0,f1,f2,f3,f18,f33,nP,nQ,rP,rQ,hkw]) | (with_reducible first | refine ag ?_ | refine aU rfl ?_ | refine aK ?_ | refine cN ?_ ?_ | refine am ?_ | refine aq ?_ | refine aG fun K hK => ?_ | refine az ?_ | refine bh ?_ | refine bp ?_ | refine aB ?_) | (with_reducible refine hK _ ?_; clear hK K) | ((with_reducible first | refine aJ ?_ ?_ | refine ai ?_ ?_); (· decide)) | (with_reducible refine ae (c1) ?_) | (with_reducible refine ae (c2) ?_))
    all_goals rfl
   | true =>
    cases p3 with
    | false =>
     clear ih hnx
     rw [hyes (by simp)]
     repeat' (first | (with_reducible refine hY _ ?_; clear hY Y) | ((with_reducible first | refine au rfl (ay fun K' hK' => aa ?_) | refine hK' _ (ab fun Y hY => aa ?_) | refine bf rfl (ab fun Y hY => aa ?_) | refine ab fun Y hY => aa ?_ | refine ay fun K' hK' => aa ?_ | refine ac tk0 aC (ab fun Y hY => aa ?_) | refine aa ?_ | refine ax ?_); (try clear hK' K'); (try dsimp only [aop]); try simp only [go_sem,seval,aC,Tryz.results19,hxl,f0,f1,f2,f3,f18,f33,nP,nQ,rP,rQ,hkw]) | (with_reducible first | refine ag ?_ | refine aU rfl ?_ | refine aK ?_ | refine cN ?_ ?_ | refine am ?_ | refine aq ?_ | refine aG fun K hK => ?_ | refine az ?_ | refine bh ?_ | refine bp ?_ | refine aB ?_) | (with_reducible refine hK _ ?_; clear hK K) | ((with_reducible first | refine aJ ?_ ?_ | refine ai ?_ ?_); (· decide)) | (with_reducible refine ae (c1) ?_) | (with_reducible refine ae (c2) ?_) | (with_reducible refine ae (c3) ?_))
     all_goals rfl
    | true =>
     cases p4 with
     | false =>
      clear ih hnx
      rw [hyes (by simp)]
      repeat' (first | (with_reducible refine hY _ ?_; clear hY Y) | ((with_reducible first | refine au rfl (ay fun K' hK' => aa ?_) | refine hK' _ (ab fun Y hY => aa ?_) | refine bf rfl (ab fun Y hY => aa ?_) | refine ab fun Y hY => aa ?_ | refine ay fun K' hK' => aa ?_ | refine ac tk0 aC (ab fun Y hY => aa ?_) | refine aa ?_ | refine ax ?_); (try clear hK' K'); (try dsimp only [aop]); try simp only [go_sem,seval,aC,Tryz.results19,hxl,f0,f1,f2,f3,f18,f33,nP,nQ,rP,rQ,hkw]) | (with_reducible first | refine ag ?_ | refine aU rfl ?_ | refine aK ?_ | refine cN ?_ ?_ | refine am ?_ | refine aq ?_ | refine aG fun K hK => ?_ | refine az ?_ | refine bh ?_ | refine bp ?_ | refine aB ?_) | (with_reducible refine hK _ ?_; clear hK K) | ((with_reducible first | refine aJ ?_ ?_ | refine ai ?_ ?_); (· decide)) | (with_reducible refine ae (c1) ?_) | (with_reducible refine ae (c2) ?_) | (with_reducible refine ae (c3) ?_) | (with_reducible refine ae (c4) ?_))
      all_goals rfl
     | true =>
      cases p5 with
      | false =>
       clear ih hnx
       rw [hyes (by simp)]
       repeat' (first | (with_reducible refine hY _ ?_; clear hY Y) | ((with_reducible first | refine au rfl (ay fun K' hK' => aa ?_) | refine hK' _ (ab fun Y hY => aa ?_) | refine bf rfl (ab fun Y hY => aa ?_) | refine ab fun Y hY => aa ?_ | refine ay fun K' hK' => aa ?_ | refine ac tk0 aC (ab fun Y hY => aa ?_) | refine aa ?_ | refine ax ?_); (try clear hK' K'); (try dsimp only [aop]); try simp only [go_sem,seval,aC,Tryz.results19,hxl,f0,f1,f2,f3,f18,f33,nP,nQ,rP,rQ,hkw]) | (with_reducible first | refine ag ?_ | refine aU rfl ?_ | refine aK ?_ | refine cN ?_ ?_ | refine am ?_ | refine aq ?_ | refine aG fun K hK => ?_ | refine az ?_ | refine bh ?_ | refine bp ?_ | refine aB ?_) | (with_reducible refine hK _ ?_; clear hK K) | ((with_reducible first | refine aJ ?_ ?_ | refine ai ?_ ?_); (· decide)) | (with_reducible refine ae (c1) ?_) | (with_reducible refine ae (c2) ?_) | (with_reducible refine ae (c3) ?_) | (with_reducible refine ae (c4) ?_) | (with_reducible refine ae (c5) ?_))
       all_goals rfl
      | true =>
       cases p6 with
       | false =>
        clear ih hnx
        rw [hyes (by simp)]
        repeat' (first | (with_reducible refine hY _ ?_; clear hY Y) | ((with_reducible first | refine au rfl (ay fun K' hK' => aa ?_) | refine hK' _ (ab fun Y hY => aa ?_) | refine bf rfl (ab fun Y hY => aa ?_) | refine ab fun Y hY => aa ?_ | refine ay fun K' hK' => aa ?_ | refine ac tk0 aC (ab fun Y hY => aa ?_) | refine aa ?_ | refine ax ?_); (try clear hK' K'); (try dsimp only [aop]); try simp only [go_sem,seval,aC,Tryz.results19,hxl,f0,f1,f2,f3,f18,f33,nP,nQ,rP,rQ,hkw]) | (with_reducible first | refine ag ?_ | refine aK ?_ | refine am ?_ | refine aq ?_ | refine aG fun K hK => ?_ | refine az ?_ | refine bh ?_ | refine bp ?_ | refine aB ?_) | (with_reducible refine hK _ ?_; clear hK K) | ((with_reducible first | refine aJ ?_ ?_ | refine ai ?_ ?_); (· decide)) | (with_reducible refine ae (c1) ?_) | (with_reducible refine ae (c2) ?_) | (with_reducible refine ae (c3) ?_) | (with_reducible refine ae (c4) ?_) | (with_reducible refine ae (c5) ?_) | (with_reducible refine ae (c6) ?_))
        all_goals rfl
       | true =>
        clear hyes
        repeat' (first | (with_reducible refine hY _ ?_; clear hY Y) | ((with_reducible first | refine au rfl (ay fun K' hK' => aa ?_) | refine hK' _ (ab fun Y hY => aa ?_) | refine bf rfl (ab fun Y hY => aa ?_) | refine ab fun Y hY => aa ?_ | refine ay fun K' hK' => aa ?_ | refine ac tk0 aC (ab fun Y hY => aa ?_) | refine aa ?_); (try clear hK' K'); (try dsimp only [aop]); try simp only [go_sem,seval,aC,Tryz.results19,hxl,f0,f1,f2,f3,f18,f33,nP,nQ,rP,rQ,hkw]) | (with_reducible first | refine ag ?_ | refine aK ?_ | refine am ?_ | refine aq ?_ | refine aG fun K hK => ?_ | refine aA ?_ | refine ba ?_ | refine aH ?_) | (with_reducible refine hK _ ?_; clear hK K) | ((with_reducible first | refine aJ ?_ ?_ | refine ai ?_ ?_); (· decide)) | (with_reducible refine ae (c1) ?_) | (with_reducible refine ae (c2) ?_) | (with_reducible refine ae (c3) ?_) | (with_reducible refine ae (c4) ?_) | (with_reducible refine ae (c5) ?_) | (with_reducible refine ae (c6) ?_))
        refine bg [1,6] (by simp only [go_sem,seval]; exact rfl) ?_
        exact ih (k + 1) ⟨by omega,hnx (by simp)⟩ (by omega)
 have hlt' : ((k : Int) < (ps.length : Int)) = False := eq_false (by omega)
 have hnd : ps.all fz = true := vO fun j hj => hall j hj (by omega)
 rw [hnd,if_pos rfl] at hR
 rw [hR]
 clear ih hall hnd
 repeat' (first | (with_reducible refine hY _ ?_; clear hY Y) | ((with_reducible first | refine au rfl (ay fun K' hK' => aa ?_) | refine hK' _ (ab fun Y hY => aa ?_) | refine ab fun Y hY => aa ?_ | refine ac tk0 aC (ab fun Y hY => aa ?_) | refine aa ?_ | refine ax ?_); (try clear hK' K'); (try dsimp only [aop]); try simp only [go_sem,seval,aC,Tryz.results19,hlt']) | (with_reducible first | refine ag ?_ | refine am ?_ | refine aq ?_ | refine aG fun K hK => ?_ | refine aA ?_ | refine bY ?_ | refine bF ?_ | refine aB ?_ | refine bE ?_) | (with_reducible refine hK _ ?_; clear hK K) | ((with_reducible refine ai ?_ ?_); (· decide)))
 all_goals rfl
end Go.Proofs.YtkjnkkmokojnpaaGreatDoor

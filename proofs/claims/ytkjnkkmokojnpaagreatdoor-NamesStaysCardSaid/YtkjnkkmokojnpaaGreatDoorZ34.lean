/- Which programs can be shown, in K: the code's Check. -/
import Derived.Test.YtkjnkkmokojnpaaGreatDoorZ31
import Derived.Test.YtkjnkkmokojnpaaGreatDoorZ14
import Derived.Test.YtkjnkkmokojnpaaGreatDoorZ29
import Derived.Test.YtkjnkkmokojnpaaGreatDoorZ11
namespace Go.Proofs.YtkjnkkmokojnpaaGreatDoor
set_option linter.unusedSimpArgs false
set_option linter.unusedVariables false
open Go.RowKit
theorem uO {α : Type} {q : α → Bool} {l : List α} {k : Nat} (h : k < l.length) (e : q l[k] = true) : l.any q = true := List.any_eq_true.2 ⟨l[k],List.getElem_mem h,e⟩
theorem sd {α : Type} {q : α → Bool} {l : List α} (h : ∀ j (hj : j < l.length),q l[j] = false) : l.any q = false := by
 rw [List.any_eq_false]
 intro x hx
 obtain ⟨j,hj,rfl⟩ := List.getElem_of_mem hx
 rw [h j hj]; simp
theorem xW {α : Type} {q : α → Bool} {l : List α} {k : Nat} (h : k < l.length) (e : q l[k] = false) : l.all q = false := List.all_eq_false.2 ⟨l[k],List.getElem_mem h,by rw [e]; simp⟩
theorem vO {α : Type} {q : α → Bool} {l : List α} (h : ∀ j (hj : j < l.length),q l[j] = true) : l.all q = true := by
 rw [List.all_eq_true]
 intro x hx
 obtain ⟨j,hj,rfl⟩ := List.getElem_of_mem hx
 exact h j hj
theorem mD {α : Type} {q : α → Prop} {l : List α} {k : Nat} (h : k < l.length) (hall : ∀ j (hj : j < l.length),j < k → q l[j]) (e : q l[k]) : ∀ j (hj : j < l.length),j < k + 1 → q l[j] := fun j hj hjk => by
 by_cases hj2 : j < k
 ·exact hall j hj hj2
 ·have : j = k := by omega
  subst this; exact e
def aT : Nat → List Nat
 | 0 => [0]
 | 1 => [1]
 | 2 => [1,8,9,10]
 | 3 => [1,8,9,10]
 | 4 => [1,4,8,9,10]
 | 5 => []
 | 6 => [1,8,9,10]
 | 7 => [1]
 | 8 => [30,31,32]
 | 9 => [30,31,32]
 | 10 => [6,30,31,32]
 | 11 => []
 | 12 => [30,31,32]
 | 13 => []
 | _ => []
set_option maxRecDepth 100000 in
set_option maxHeartbeats 16000000 in
theorem Bt (hst : ∀ l,Lg l → gr l → AFn Tryz.prog 45 [.sl (du l) l.length .none] [] (.c (.bool (ig l))) []) (ps : List PP) (hps : kL ps) : AFn Tryz.prog 17 [.agg [dN ps]] [] (eM (eL ps)) [] := by
 obtain ⟨hpl,hpo⟩ := hps
 unfold Lg at hpl
 have hfl := gw ps
 obtain ⟨R,hR⟩ : ∃ R,R = eL ps := ⟨_,rfl⟩
 rw [← hR]
 unfold eL at hR
 refine aM [] Tryz.func17 rfl Tryz.ntmps17 (Nat.le_of_ble_eq_true rfl) (Nat.le_of_ble_eq_true rfl) fun w0 G0 B0 Pr hB0 => ?_
 simp only [aW,aL,List.cons_append,List.nil_append]
 repeat' (first | (with_reducible refine hY _ ?_; clear hY Y) | ((with_reducible first | refine au rfl (ay fun K' hK' => aa ?_) | refine hK' _ (ab fun Y hY => aa ?_)); (try clear hK' K'); (try dsimp only [aop]); try simp only [go_sem,seval,aT,Tryz.results17]) | (with_reducible first | refine ag ?_ | refine am ?_ | refine aG fun K hK => ?_) | ((with_reducible refine bC 1 ?_ ?_); (· rfl)) | ((with_reducible refine aS 1 tk0 aT ?_ (ab fun Y hY => aa ?_)); (· rfl); (try dsimp only [aop]); try simp only [go_sem,seval,aT,Tryz.results17]) | (with_reducible refine hK _ ?_; clear hK K))
 refine dj 10001 ⟨by decide,by decide⟩ rfl rfl (by simp only [go_sem,seval]; exact rfl) (by simp only [go_sem,seval]; exact rfl) ?_
 repeat' (first | (with_reducible refine hY _ ?_; clear hY Y) | ((with_reducible first | refine au rfl (ay fun K' hK' => aa ?_) | refine hK' _ (ab fun Y hY => aa ?_) | refine ac tk0 aT (ab fun Y hY => aa ?_)); (try clear hK' K'); (try dsimp only [aop]); try simp only [go_sem,seval,aT,Tryz.results17]) | (with_reducible first | refine ag ?_ | refine am ?_ | refine aq ?_ | refine aG fun K hK => ?_ | refine av ?_ | refine bR ?_) | (with_reducible refine hK _ ?_; clear hK K))
 refine bX (α := Nat) (fun k => [(1,.rf [dN ps] 0),(8,.sl (ps.flatMap ppA) ps.length .none),(9,inA (ps.length : Int)),(10,inA (k : Int))])
  (fun k => k ≤ ps.length ∧ ∀ j (hj : j < ps.length),j < k → eO ps[j] = false) (fun k => ps.length - k) 0 [1,8,9,10] ?_ ⟨Nat.zero_le _,fun j _ hj => absurd hj (Nat.not_lt_zero _)⟩ ?_
 ·simp only [go_sem,seval] <;> rfl
 rintro k ⟨hk,hall⟩ ih
 by_cases hlt : k < ps.length
 ·have hlt' : ((k : Int) < (ps.length : Int)) = True := eq_true (by omega)
  have hkw := dp (n := k) (by omega)
  have hg0 := jN hlt
  have hox := hpo ps[k] (List.getElem_mem hlt)
  have hyes : eO ps[k] = true → R = 4 := fun e => by rw [hR,uO hlt e]; rfl
  have hnx : eO ps[k] = false → ∀ j (hj : j < ps.length),j < k + 1 → eO ps[j] = false := mD (q := fun x => eO x = false) hlt hall
  generalize ps[k] = x at *
  obtain ⟨_,_,_,hpre,hpost,hbl,hbo⟩ := hox
  have c1 : AFn Tryz.prog 40 [.agg (paA x.pre),inA 100] [] (.c (.bool (fW 100 x.pre))) [] := oX 100 (by decide) x.pre hpre
  have c2 : AFn Tryz.prog 40 [.agg (paA x.post),inA 100] [] (.c (.bool (fW 100 x.post))) [] := oX 100 (by decide) x.post hpost
  have c3 : AFn Tryz.prog 41 [.sl (du x.body) x.body.length .none,inA 100] [] (.c (.bool (x.body.any (fA 100)))) [] := vV 100 (by decide) x.body hbl hbo
  unfold eO at hyes hnx
  have nP := (dP x.pre).nm3
  have nQ := (dP x.post).nm3
  have rP := (dP x.pre).rn3
  have rQ := (dP x.post).rn3
  obtain ⟨hx1,hxp,hxl,f0,f1,f2,f3,f18,f33⟩ := nl x
  generalize ppA x = XC at *
  generalize paA x.pre = PA at *
  generalize paA x.post = QA at *
  generalize du x.body = BA at *
  generalize x.body.length = bl at *
  generalize fW 100 x.pre = p1 at *
  generalize fW 100 x.post = p2 at *
  generalize x.body.any (fA 100) = p3 at *
  clear hpo hpre hpost hbl hbo hR hall f0 f1 f2
  repeat' (first | (with_reducible refine hY _ ?_; clear hY Y) | ((with_reducible first | refine au rfl (ay fun K' hK' => aa ?_) | refine hK' _ (ab fun Y hY => aa ?_) | refine ab fun Y hY => aa ?_); (try clear hK' K'); (try dsimp only [aop]); try simp only [go_sem,seval,aT,Tryz.results17,hlt',hg0,hfl,hkw,hx1,hxl]) | (with_reducible first | refine ag ?_ | refine am ?_ | refine aG fun K hK => ?_ | refine az ?_ | refine av ?_ | refine aH ?_) | ((with_reducible refine bC 4 ?_ ?_); (· rfl)) | ((with_reducible refine aS 4 tk0 aT ?_ (ab fun Y hY => aa ?_)); (· rfl); (try dsimp only [aop]); try simp only [go_sem,seval,aT,Tryz.results17,hlt',hg0,hfl,hkw,hx1,hxl]) | (with_reducible refine hK _ ?_; clear hK K) | ((with_reducible refine ai ?_ ?_); (· decide)) | (with_reducible refine bm ?_ ?_; (· (try and_intros) <;> first | omega | assumption | (simp only [List.length_append,List.length_map,List.length_cons,List.length_nil] <;> omega))))
  refine dj 10004 ⟨by decide,by decide⟩ rfl rfl hxp (by simp only [go_sem,seval]; exact rfl) ?_
  cases p1 with
  | true =>
   clear ih hnx
   rw [hyes rfl,dq (e := 4) (by decide)]
   repeat' (first | (with_reducible refine hY _ ?_; clear hY Y) | ((with_reducible first | refine au rfl (ay fun K' hK' => aa ?_) | refine hK' _ (ab fun Y hY => aa ?_) | refine bf rfl (ab fun Y hY => aa ?_) | refine ab fun Y hY => aa ?_ | refine ac tk0 aT (ab fun Y hY => aa ?_) | refine aa ?_ | refine ax ?_); (try clear hK' K'); (try dsimp only [aop]); try simp only [go_sem,seval,aT,Tryz.results17,hxl,f3,f18,f33,nP,nQ,rP,rQ,hkw]) | (with_reducible first | refine ag ?_ | refine aU rfl ?_ | refine cN ?_ ?_ | refine am ?_ | refine aq ?_ | refine aG fun K hK => ?_ | refine az ?_ | refine bh ?_ | refine bp ?_ | refine aB ?_) | (with_reducible refine hK _ ?_; clear hK K) | ((with_reducible first | refine aJ ?_ ?_ | refine ai ?_ ?_); (· decide)) | (with_reducible refine ae (c1) ?_))
   all_goals rfl
  | false =>
   cases p2 with
   | true =>
    clear ih hnx
    rw [hyes rfl,dq (e := 4) (by decide)]
    repeat' (first | (with_reducible refine hY _ ?_; clear hY Y) | ((with_reducible first | refine au rfl (ay fun K' hK' => aa ?_) | refine hK' _ (ab fun Y hY => aa ?_) | refine bf rfl (ab fun Y hY => aa ?_) | refine ab fun Y hY => aa ?_ | refine ay fun K' hK' => aa ?_ | refine ac tk0 aT (ab fun Y hY => aa ?_) | refine aa ?_ | refine ax ?_); (try clear hK' K'); (try dsimp only [aop]); try simp only [go_sem,seval,aT,Tryz.results17,hxl,f3,f18,f33,nP,nQ,rP,rQ,hkw]) | (with_reducible first | refine ag ?_ | refine aU rfl ?_ | refine aK ?_ | refine cN ?_ ?_ | refine am ?_ | refine aq ?_ | refine aG fun K hK => ?_ | refine az ?_ | refine bh ?_ | refine bp ?_ | refine aB ?_) | (with_reducible refine hK _ ?_; clear hK K) | ((with_reducible first | refine aJ ?_ ?_ | refine ai ?_ ?_); (· decide)) | (with_reducible refine ae (c1) ?_) | (with_reducible refine ae (c2) ?_))
    all_goals rfl
   | false =>
    cases p3 with
    | true =>
     clear ih hnx
     rw [hyes rfl,dq (e := 4) (by decide)]
     repeat' (first | (with_reducible refine hY _ ?_; clear hY Y) | ((with_reducible first | refine au rfl (ay fun K' hK' => aa ?_) | refine hK' _ (ab fun Y hY => aa ?_) | refine bf rfl (ab fun Y hY => aa ?_) | refine ab fun Y hY => aa ?_ | refine ay fun K' hK' => aa ?_ | refine ac tk0 aT (ab fun Y hY => aa ?_) | refine aa ?_ | refine ax ?_); (try clear hK' K'); (try dsimp only [aop]); try simp only [go_sem,seval,aT,Tryz.results17,hxl,f3,f18,f33,nP,nQ,rP,rQ,hkw]) | (with_reducible first | refine ag ?_ | refine aK ?_ | refine am ?_ | refine aq ?_ | refine aG fun K hK => ?_ | refine az ?_ | refine bh ?_ | refine bp ?_ | refine aB ?_) | (with_reducible refine hK _ ?_; clear hK K) | ((with_reducible first | refine aJ ?_ ?_ | refine ai ?_ ?_); (· decide)) | (with_reducible refine ae (c1) ?_) | (with_reducible refine ae (c2) ?_) | (with_reducible refine ae (c3) ?_))
     all_goals rfl
    | false =>
     clear hyes
     repeat' (first | (with_reducible refine hY _ ?_; clear hY Y) | ((with_reducible first | refine au rfl (ay fun K' hK' => aa ?_) | refine hK' _ (ab fun Y hY => aa ?_) | refine bf rfl (ab fun Y hY => aa ?_) | refine ab fun Y hY => aa ?_ | refine ay fun K' hK' => aa ?_ | refine ac tk0 aT (ab fun Y hY => aa ?_) | refine aa ?_); (try clear hK' K'); (try dsimp only [aop]); try simp only [go_sem,seval,aT,Tryz.results17,hxl,f3,f18,f33,nP,nQ,rP,rQ,hkw]) | (with_reducible first | refine ag ?_ | refine aK ?_ | refine am ?_ | refine aq ?_ | refine aG fun K hK => ?_ | refine aA ?_ | refine ba ?_ | refine aH ?_) | (with_reducible refine hK _ ?_; clear hK K) | ((with_reducible first | refine aJ ?_ ?_ | refine ai ?_ ?_); (· decide)) | (with_reducible refine ae (c1) ?_) | (with_reducible refine ae (c2) ?_) | (with_reducible refine ae (c3) ?_))
     refine bg [1,8,9,10] (by simp only [go_sem,seval]; exact rfl) ?_
     exact ih (k + 1) ⟨by omega,hnx rfl⟩ (by omega)
 have hlt' : ((k : Int) < (ps.length : Int)) = False := eq_false (by omega)
 have hnd : ps.any eO = false := sd fun j hj => hall j hj (by omega)
 rw [hnd,if_neg (by decide)] at hR
 clear ih hall hnd
 repeat' (first | (with_reducible refine hY _ ?_; clear hY Y) | ((with_reducible first | refine au rfl (ay fun K' hK' => aa ?_) | refine hK' _ (ab fun Y hY => aa ?_) | refine ab fun Y hY => aa ?_ | refine ac tk0 aT (ab fun Y hY => aa ?_)); (try clear hK' K'); (try dsimp only [aop]); try simp only [go_sem,seval,aT,Tryz.results17,hlt']) | (with_reducible first | refine ag ?_ | refine am ?_ | refine aq ?_ | refine aG fun K hK => ?_ | refine aA ?_ | refine bY ?_ | refine bF ?_ | refine av ?_ | refine bE ?_ | refine bR ?_) | (with_reducible refine hK _ ?_; clear hK K) | ((with_reducible refine ai ?_ ?_); (· decide)))
 clear hlt hlt' hk k
 refine bX (α := Nat) (fun k => [(30,.sl (ps.flatMap ppA) ps.length .none),(31,inA (ps.length : Int)),(32,inA (k : Int))])
  (fun k => k ≤ ps.length ∧ ∀ j (hj : j < ps.length),j < k → fz ps[j] = true) (fun k => ps.length - k) 0 [30,31,32] ?_ ⟨Nat.zero_le _,fun j _ hj => absurd hj (Nat.not_lt_zero _)⟩ ?_
 ·simp only [go_sem,seval] <;> rfl
 rintro k ⟨hk,hall⟩ ih
 by_cases hlt : k < ps.length
 ·have hlt' : ((k : Int) < (ps.length : Int)) = True := eq_true (by omega)
  have hkw := dp (n := k) (by omega)
  have hg0 := jN hlt
  have hox := hpo ps[k] (List.getElem_mem hlt)
  have hyes : fz ps[k] = false → R = 5 := fun e => by rw [hR,xW hlt e]; rfl
  have hnx : fz ps[k] = true → ∀ j (hj : j < ps.length),j < k + 1 → fz ps[j] = true := mD (q := fun x => fz x = true) hlt hall
  generalize ps[k] = x at *
  obtain ⟨hnm,hpr,hgh,hpre,hpost,hbl,hbo⟩ := hox
  unfold Lg at hnm
  have c1 := i9 x.name (by omega)
  have c2 := qj x.params hpr
  have c3 := qj x.ghosts hgh
  have c4 := sf x.pre hpre
  have c5 := sf x.post hpost
  have c6 := hst x.body hbl hbo
  unfold lZ at c4 c5
  unfold fz at hyes hnx
  have nP := (dP x.pre).nm3
  have nQ := (dP x.post).nm3
  have rP := (dP x.pre).rn3
  have rQ := (dP x.post).rn3
  obtain ⟨hx1,hxp,hxl,f0,f1,f2,f3,f18,f33⟩ := nl x
  generalize ppA x = XC at *
  generalize paA x.pre = PA at *
  generalize paA x.post = QA at *
  generalize du x.body = BA at *
  generalize x.body.length = bl at *
  generalize x.params.map bs = MA at *
  generalize x.params.length = ml at *
  generalize x.ghosts.map bs = GA at *
  generalize x.ghosts.length = gl at *
  generalize dM x.name = p1 at *
  generalize fR x.params = p2 at *
  generalize fR x.ghosts = p3 at *
  generalize seA x.pre = p4 at *
  generalize seA x.post = p5 at *
  generalize ig x.body = p6 at *
  clear hpo hpre hpost hbl hbo hR hall hnm hpr hgh
  repeat' (first | (with_reducible refine hY _ ?_; clear hY Y) | ((with_reducible first | refine au rfl (ay fun K' hK' => aa ?_) | refine hK' _ (ab fun Y hY => aa ?_) | refine ab fun Y hY => aa ?_); (try clear hK' K'); (try dsimp only [aop]); try simp only [go_sem,seval,aT,Tryz.results17,hlt',hg0,hfl,hkw,hx1,hxl]) | (with_reducible first | refine ag ?_ | refine am ?_ | refine aG fun K hK => ?_ | refine az ?_ | refine av ?_ | refine aH ?_) | ((with_reducible refine bC 10 ?_ ?_); (· rfl)) | ((with_reducible refine aS 10 tk0 aT ?_ (ab fun Y hY => aa ?_)); (· rfl); (try dsimp only [aop]); try simp only [go_sem,seval,aT,Tryz.results17,hlt',hg0,hfl,hkw,hx1,hxl]) | (with_reducible refine hK _ ?_; clear hK K) | ((with_reducible refine ai ?_ ?_); (· decide)) | (with_reducible refine bm ?_ ?_; (· (try and_intros) <;> first | omega | assumption | (simp only [List.length_append,List.length_map,List.length_cons,List.length_nil] <;> omega))))
  refine dj 10006 ⟨by decide,by decide⟩ rfl rfl hxp (by simp only [go_sem,seval]; exact rfl) ?_
  cases p1 with
  | false =>
   clear ih hnx
   rw [hyes (by simp),dq (e := 5) (by decide)]
   repeat' (first | (with_reducible refine hY _ ?_; clear hY Y) | ((with_reducible first | refine au rfl (ay fun K' hK' => aa ?_) | refine hK' _ (ab fun Y hY => aa ?_) | refine bf rfl (ab fun Y hY => aa ?_) | refine ab fun Y hY => aa ?_ | refine ac tk0 aT (ab fun Y hY => aa ?_) | refine aa ?_ | refine ax ?_); (try clear hK' K'); (try dsimp only [aop]); try simp only [go_sem,seval,aT,Tryz.results17,hxl,f0,f1,f2,f3,f18,f33,nP,nQ,rP,rQ,hkw]) | (with_reducible first | refine ag ?_ | refine aU rfl ?_ | refine cN ?_ ?_ | refine am ?_ | refine aq ?_ | refine aG fun K hK => ?_ | refine az ?_ | refine bh ?_ | refine bp ?_ | refine aB ?_) | (with_reducible refine hK _ ?_; clear hK K) | ((with_reducible first | refine aJ ?_ ?_ | refine ai ?_ ?_); (· decide)) | (with_reducible refine ae (c1) ?_))
   all_goals rfl
  | true =>
   cases p2 with
   | false =>
    clear ih hnx
    rw [hyes (by simp),dq (e := 5) (by decide)]
    repeat' (first | (with_reducible refine hY _ ?_; clear hY Y) | ((with_reducible first | refine au rfl (ay fun K' hK' => aa ?_) | refine hK' _ (ab fun Y hY => aa ?_) | refine bf rfl (ab fun Y hY => aa ?_) | refine ab fun Y hY => aa ?_ | refine ay fun K' hK' => aa ?_ | refine ac tk0 aT (ab fun Y hY => aa ?_) | refine aa ?_ | refine ax ?_); (try clear hK' K'); (try dsimp only [aop]); try simp only [go_sem,seval,aT,Tryz.results17,hxl,f0,f1,f2,f3,f18,f33,nP,nQ,rP,rQ,hkw]) | (with_reducible first | refine ag ?_ | refine aU rfl ?_ | refine aK ?_ | refine cN ?_ ?_ | refine am ?_ | refine aq ?_ | refine aG fun K hK => ?_ | refine az ?_ | refine bh ?_ | refine bp ?_ | refine aB ?_) | (with_reducible refine hK _ ?_; clear hK K) | ((with_reducible first | refine aJ ?_ ?_ | refine ai ?_ ?_); (· decide)) | (with_reducible refine ae (c1) ?_) | (with_reducible refine ae (c2) ?_))
    all_goals rfl
   | true =>
    cases p3 with
    | false =>
     clear ih hnx
     rw [hyes (by simp),dq (e := 5) (by decide)]
     repeat' (first | (with_reducible refine hY _ ?_; clear hY Y) | ((with_reducible first | refine au rfl (ay fun K' hK' => aa ?_) | refine hK' _ (ab fun Y hY => aa ?_) | refine bf rfl (ab fun Y hY => aa ?_) | refine ab fun Y hY => aa ?_ | refine ay fun K' hK' => aa ?_ | refine ac tk0 aT (ab fun Y hY => aa ?_) | refine aa ?_ | refine ax ?_); (try clear hK' K'); (try dsimp only [aop]); try simp only [go_sem,seval,aT,Tryz.results17,hxl,f0,f1,f2,f3,f18,f33,nP,nQ,rP,rQ,hkw]) | (with_reducible first | refine ag ?_ | refine aU rfl ?_ | refine aK ?_ | refine cN ?_ ?_ | refine am ?_ | refine aq ?_ | refine aG fun K hK => ?_ | refine az ?_ | refine bh ?_ | refine bp ?_ | refine aB ?_) | (with_reducible refine hK _ ?_; clear hK K) | ((with_reducible first | refine aJ ?_ ?_ | refine ai ?_ ?_); (· decide)) | (with_reducible refine ae (c1) ?_) | (with_reducible refine ae (c2) ?_) | (with_reducible refine ae (c3) ?_))
     all_goals rfl
    | true =>
     cases p4 with
     | false =>
      clear ih hnx
      rw [hyes (by simp),dq (e := 5) (by decide)]
      repeat' (first | (with_reducible refine hY _ ?_; clear hY Y) | ((with_reducible first | refine au rfl (ay fun K' hK' => aa ?_) | refine hK' _ (ab fun Y hY => aa ?_) | refine bf rfl (ab fun Y hY => aa ?_) | refine ab fun Y hY => aa ?_ | refine ay fun K' hK' => aa ?_ | refine ac tk0 aT (ab fun Y hY => aa ?_) | refine aa ?_ | refine ax ?_); (try clear hK' K'); (try dsimp only [aop]); try simp only [go_sem,seval,aT,Tryz.results17,hxl,f0,f1,f2,f3,f18,f33,nP,nQ,rP,rQ,hkw]) | (with_reducible first | refine ag ?_ | refine aU rfl ?_ | refine aK ?_ | refine cN ?_ ?_ | refine am ?_ | refine aq ?_ | refine aG fun K hK => ?_ | refine az ?_ | refine bh ?_ | refine bp ?_ | refine aB ?_) | (with_reducible refine hK _ ?_; clear hK K) | ((with_reducible first | refine aJ ?_ ?_ | refine ai ?_ ?_); (· decide)) | (with_reducible refine ae (c1) ?_) | (with_reducible refine ae (c2) ?_) | (with_reducible refine ae (c3) ?_) | (with_reducible refine ae (c4) ?_))
      all_goals rfl
     | true =>
      cases p5 with
      | false =>
       clear ih hnx
       rw [hyes (by simp),dq (e := 5) (by decide)]
       repeat' (first | (with_reducible refine hY _ ?_; clear hY Y) | ((with_reducible first | refine au rfl (ay fun K' hK' => aa ?_) | refine hK' _ (ab fun Y hY => aa ?_) | refine bf rfl (ab fun Y hY => aa ?_) | refine ab fun Y hY => aa ?_ | refine ay fun K' hK' => aa ?_ | refine ac tk0 aT (ab fun Y hY => aa ?_) | refine aa ?_ | refine ax ?_); (try clear hK' K'); (try dsimp only [aop]); try simp only [go_sem,seval,aT,Tryz.results17,hxl,f0,f1,f2,f3,f18,f33,nP,nQ,rP,rQ,hkw]) | (with_reducible first | refine ag ?_ | refine aU rfl ?_ | refine aK ?_ | refine cN ?_ ?_ | refine am ?_ | refine aq ?_ | refine aG fun K hK => ?_ | refine az ?_ | refine bh ?_ | refine bp ?_ | refine aB ?_) | (with_reducible refine hK _ ?_; clear hK K) | ((with_reducible first | refine aJ ?_ ?_ | refine ai ?_ ?_); (· decide)) | (with_reducible refine ae (c1) ?_) | (with_reducible refine ae (c2) ?_) | (with_reducible refine ae (c3) ?_) | (with_reducible refine ae (c4) ?_) | (with_reducible refine ae (c5) ?_))
       all_goals rfl
      | true =>
       cases p6 with
       | false =>
        clear ih hnx
        rw [hyes (by simp),dq (e := 5) (by decide)]
        repeat' (first | (with_reducible refine hY _ ?_; clear hY Y) | ((with_reducible first | refine au rfl (ay fun K' hK' => aa ?_) | refine hK' _ (ab fun Y hY => aa ?_) | refine bf rfl (ab fun Y hY => aa ?_) | refine ab fun Y hY => aa ?_ | refine ay fun K' hK' => aa ?_ | refine ac tk0 aT (ab fun Y hY => aa ?_) | refine aa ?_ | refine ax ?_); (try clear hK' K'); (try dsimp only [aop]); try simp only [go_sem,seval,aT,Tryz.results17,hxl,f0,f1,f2,f3,f18,f33,nP,nQ,rP,rQ,hkw]) | (with_reducible first | refine ag ?_ | refine aK ?_ | refine am ?_ | refine aq ?_ | refine aG fun K hK => ?_ | refine az ?_ | refine bh ?_ | refine bp ?_ | refine aB ?_) | (with_reducible refine hK _ ?_; clear hK K) | ((with_reducible first | refine aJ ?_ ?_ | refine ai ?_ ?_); (· decide)) | (with_reducible refine ae (c1) ?_) | (with_reducible refine ae (c2) ?_) | (with_reducible refine ae (c3) ?_) | (with_reducible refine ae (c4) ?_) | (with_reducible refine ae (c5) ?_) | (with_reducible refine ae (c6) ?_))
        all_goals rfl
       | true =>
        clear hyes
        repeat' (first | (with_reducible refine hY _ ?_; clear hY Y) | ((with_reducible first | refine au rfl (ay fun K' hK' => aa ?_) | refine hK' _ (ab fun Y hY => aa ?_) | refine bf rfl (ab fun Y hY => aa ?_) | refine ab fun Y hY => aa ?_ | refine ay fun K' hK' => aa ?_ | refine ac tk0 aT (ab fun Y hY => aa ?_) | refine aa ?_); (try clear hK' K'); (try dsimp only [aop]); try simp only [go_sem,seval,aT,Tryz.results17,hxl,f0,f1,f2,f3,f18,f33,nP,nQ,rP,rQ,hkw]) | (with_reducible first | refine ag ?_ | refine aK ?_ | refine am ?_ | refine aq ?_ | refine aG fun K hK => ?_ | refine aA ?_ | refine ba ?_ | refine aH ?_) | (with_reducible refine hK _ ?_; clear hK K) | ((with_reducible first | refine aJ ?_ ?_ | refine ai ?_ ?_); (· decide)) | (with_reducible refine ae (c1) ?_) | (with_reducible refine ae (c2) ?_) | (with_reducible refine ae (c3) ?_) | (with_reducible refine ae (c4) ?_) | (with_reducible refine ae (c5) ?_) | (with_reducible refine ae (c6) ?_))
        refine bg [30,31,32] (by simp only [go_sem,seval]; exact rfl) ?_
        exact ih (k + 1) ⟨by omega,hnx (by simp)⟩ (by omega)
 have hlt' : ((k : Int) < (ps.length : Int)) = False := eq_false (by omega)
 have hnd : ps.all fz = true := vO fun j hj => hall j hj (by omega)
 rw [hnd,if_pos rfl] at hR
 rw [hR,mK]
 clear ih hall hnd
 repeat' (first | (with_reducible refine hY _ ?_; clear hY Y) | ((with_reducible first | refine au rfl (ay fun K' hK' => aa ?_) | refine hK' _ (ab fun Y hY => aa ?_) | refine ab fun Y hY => aa ?_ | refine ac tk0 aT (ab fun Y hY => aa ?_) | refine aa ?_ | refine ax ?_); (try clear hK' K'); (try dsimp only [aop]); try simp only [go_sem,seval,aT,Tryz.results17,hlt']) | (with_reducible first | refine ag ?_ | refine am ?_ | refine aq ?_ | refine aG fun K hK => ?_ | refine aA ?_ | refine bY ?_ | refine bF ?_ | refine aB ?_ | refine bE ?_) | (with_reducible refine hK _ ?_; clear hK K) | ((with_reducible refine ai ?_ ?_); (· decide)))
end Go.Proofs.YtkjnkkmokojnpaaGreatDoor

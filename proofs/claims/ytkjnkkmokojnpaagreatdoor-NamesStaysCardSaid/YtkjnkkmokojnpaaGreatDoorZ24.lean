/- The document's names in K: what is amiss with statements. -/
import Derived.Test.YtkjnkkmokojnpaaGreatDoorZ23
import Derived.Test.YtkjnkkmokojnpaaGreatDoorZ11
namespace Go.Proofs.YtkjnkkmokojnpaaGreatDoor
set_option linter.unusedSimpArgs false
set_option linter.unusedVariables false
open Go.RowKit
def fT (ps : List PP) (gs : List Wd) (st : Bool × Bool × Bool) (s : PS') : Bool × Bool × Bool := (st.1 || stN ps gs s,st.2.1 || stC ps s,st.2.2 || stP s)
theorem Cx (ps : List PP) (gs : List Wd) : ∀ (l : List PS') (st : Bool × Bool × Bool),l.foldl (fT ps gs) st = (st.1 || l.any (stN ps gs),st.2.1 || l.any (stC ps),st.2.2 || l.any stP)
  | [],st => by simp
  | s :: r,st => by rw [List.foldl_cons,Cx ps gs r]; simp [fT,Bool.or_assoc]
def vS : PS' → List Wd
  | .mk k x y z e v c a rs gs fs b l => (vE e ++ vE v) ++ (vC c ++ vEs rs)
abbrev BdS (l : List PS') : Prop := ∀ s ∈ flL l,(vS s).length ≤ 1099511627776
theorem sA {l : List PS'} {s : PS'} (h : s ∈ l) : ∀ t ∈ flS s,t ∈ flL l := by
  induction l with
  | nil => exact absurd h List.not_mem_nil
  | cons a r ih =>
    intro t ht
    rw [flL]
    rcases List.mem_cons.1 h with rfl | h
    · exact List.mem_append_left _ ht
    · exact List.mem_append_right _ (ih h t ht)
theorem BdS.own {l : List PS'} (h : BdS l) {s : PS'} (hs : s ∈ l) : (vS s).length ≤ 1099511627776 ∧ BdS s.body ∧ BdS s.els := by
  refine ⟨h s (sA hs s (by rw [sB]; simp)),fun t ht => h t (sA hs t (by rw [sB]; simp [ht])),fun t ht => h t (sA hs t (by rw [sB]; simp [ht]))⟩
theorem mH {α : Type} (p : α → Bool) {l : List α} {k : Nat} (h : k < l.length) : (l.take (k + 1)).any p = ((l.take k).any p || p l[k]) := by
  rw [List.take_succ_eq_append_getElem h,List.any_append]; simp
abbrev xP (ps : List PP) (gs : List Wd) (l : List PS') : Prop := ∀ st : Bool × Bool × Bool,AFn Tryz.prog 27 [.agg [dN ps],.sl (gs.map bs) gs.length .none,.sl (du l) l.length .none,.agg [.c (.bool st.1),.c (.bool st.2.1),.c (.bool st.2.2)]] []
  (.agg [.c (.bool (da (fT ps gs) st l).1),.c (.bool (da (fT ps gs) st l).2.1),.c (.bool (da (fT ps gs) st l).2.2)]) []
def aD : Nat → List Nat
  | 0 => [0,1,2,3]
  | 1 => [1,2,4,7,8]
  | 2 => [1,2,4,7,8,9]
  | 3 => [1,2,4,7,8,9]
  | 4 => [1,2,4,7,8,9]
  | 5 => [1,2,4,7,8,9,10]
  | 6 => [1,2,4,7,8,9,10,11]
  | 7 => [1,2,4,7,8,9,10,11]
  | 8 => [1,2,4,7,8,9,10,11,12]
  | 9 => [1,2,4,7,8,9,10,11,12]
  | 10 => [1,2,4,7,8,9,10,11,12]
  | 11 => [1,2,4,7,8,9,10,11,12,13]
  | 12 => [1,2,4,7,8,9,10]
  | 13 => [1,2,4,7,8,9,10]
  | 14 => [1,2,4,7,8,9,10,14]
  | 15 => [1,2,4,7,8,9,10]
  | 16 => [1,2,4,7,8,9,10]
  | 17 => [1,2,4,7,8,9,10,15]
  | 18 => [1,2,4,7,8,9,10]
  | 19 => [1,2,4,7,8,9,10,15]
  | 20 => [1,2,4,7,8,9,10]
  | 21 => [1,2,4,7,8,9,10]
  | 22 => [1,2,4,7,8,9,10]
  | 23 => [7,8]
  | _ => []
set_option maxRecDepth 100000 in
set_option maxHeartbeats 64000000 in
theorem vH (ps : List PP) (hps : Lg ps) (gs : List Wd) (hgs : gs.length ≤ 1000) (l : List PS') (hl : Lg l) (ho : gr l) (hbd : BdS l) (hb : ∀ s ∈ l,xP ps gs s.body) (he : ∀ s ∈ l,xP ps gs s.els) : xP ps gs l := fun st0 => by
  have hgs' : Lg gs := by unfold Lg; omega
  unfold Lg at hl hps
  refine aM [] Tryz.func27 rfl Tryz.ntmps27 (Nat.le_of_ble_eq_true rfl) (Nat.le_of_ble_eq_true rfl) fun w0 G0 B0 Pr hB0 => ?_
  simp only [aW,aL,List.cons_append,List.nil_append]
  repeat' (first | (with_reducible refine hY _ ?_; clear hY Y) | ((with_reducible first | refine au rfl (ay fun K' hK' => aa ?_) | refine hK' _ (ab fun Y hY => aa ?_)); (try clear hK' K'); (try dsimp only [aop]); try simp only [go_sem,seval,aD,Tryz.results27]) | (with_reducible first | refine ag ?_ | refine am ?_ | refine aG fun K hK => ?_) | ((with_reducible refine bC 1 ?_ ?_); (· rfl)) | ((with_reducible refine aS 1 tk0 aD ?_ (ab fun Y hY => aa ?_)); (· rfl); (try dsimp only [aop]); try simp only [go_sem,seval,aD,Tryz.results27]) | (with_reducible refine hK _ ?_; clear hK K))
  refine dj 10004 ⟨by decide,by decide⟩ rfl rfl (by simp only [go_sem,seval]; exact rfl) (by simp only [go_sem,seval]; exact rfl) ?_
  repeat' (first | (with_reducible refine hY _ ?_; clear hY Y) | ((with_reducible first | refine au rfl (ay fun K' hK' => aa ?_) | refine hK' _ (ab fun Y hY => aa ?_) | refine ac tk0 aD (ab fun Y hY => aa ?_)); (try clear hK' K'); (try dsimp only [aop]); try simp only [go_sem,seval,aD,Tryz.results27]) | (with_reducible first | refine ag ?_ | refine am ?_ | refine aq ?_ | refine aG fun K hK => ?_ | refine av ?_ | refine bR ?_) | (with_reducible refine hK _ ?_; clear hK K))
  refine bX (α := Nat) (fun k => [(1,.sl (gs.map bs) gs.length .none),(2,.sl (du l) l.length .none),(4,.rf [dN ps] 0),(7,.loc 10007 0),(8,.loc 10008 0),(9,inA (k : Int)),
      (10007,.bc [.c (.bool (da (fT ps gs) st0 (l.take k)).1),.c (.bool (da (fT ps gs) st0 (l.take k)).2.1),.c (.bool (da (fT ps gs) st0 (l.take k)).2.2)] 69),(10008,.bc [.c (.bool false),.c (.bool false),.c (.bool false)] 69)])
    (fun k => k ≤ l.length) (fun k => l.length - k) 0 [1,2,4,7,8,9] ?_ (Nat.zero_le _) ?_
  · simp only [go_sem,seval] <;> rfl
  intro k hk ih
  by_cases hlt : k < l.length
  case neg =>
    have hlt' : ((k : Int) < (l.length : Int)) = False := eq_false (by omega)
    rw [List.take_of_length_le (by omega)]
    clear ih hb he
    repeat' (first | (with_reducible refine hY _ ?_; clear hY Y) | ((with_reducible first | refine au rfl (ay fun K' hK' => aa ?_) | refine hK' _ (ab fun Y hY => aa ?_) | refine ab fun Y hY => aa ?_ | refine ac tk0 aD (ab fun Y hY => aa ?_) | refine aa ?_ | refine ax ?_); (try clear hK' K'); (try dsimp only [aop]); try simp only [go_sem,seval,aD,Tryz.results27,hlt']) | (with_reducible first | refine ag ?_ | refine am ?_ | refine aq ?_ | refine aG fun K hK => ?_ | refine aA ?_ | refine bY ?_ | refine bF ?_ | refine aB ?_ | refine bE ?_) | (with_reducible refine hK _ ?_; clear hK K) | ((with_reducible refine ai ?_ ?_); (· decide)))
  have hlt' : ((k : Int) < (l.length : Int)) = True := eq_true (by omega)
  have hkw := dp (n := k) (by omega)
  have hg0 := jp hlt
  have hfl := gx l
  have hst := lR (fT ps gs) st0 hlt
  have ihk := ih (k + 1) (by omega) (by omega)
  rw [hst] at ihk
  obtain ⟨hbs,hbb,hbe⟩ := hbd.own (List.getElem_mem hlt)
  have hok := fy ho l[k] (List.getElem_mem hlt)
  have r1 := hb l[k] (List.getElem_mem hlt) (fT ps gs (da (fT ps gs) st0 (l.take k)) l[k])
  have r2 := he l[k] (List.getElem_mem hlt) (da (fT ps gs) (fT ps gs (da (fT ps gs) st0 (l.take k)) l[k]) l[k].body)
  clear ih hb he hst hbb hbe
  generalize da (fT ps gs) (da (fT ps gs) (fT ps gs (da (fT ps gs) st0 (l.take k)) l[k]) l[k].body) l[k].els = s3 at *
  generalize da (fT ps gs) (fT ps gs (da (fT ps gs) st0 (l.take k)) l[k]) l[k].body = s2 at *
  generalize da (fT ps gs) st0 (l.take k) = s0 at *
  obtain ⟨s1,hs1⟩ : ∃ s1,s1 = fT ps gs s0 l[k] := ⟨_,rfl⟩
  rw [← hs1] at r1
  generalize l[k] = t at *
  obtain ⟨n0,c0,p0⟩ := s0
  obtain ⟨n1,c1,p1⟩ := s1
  obtain ⟨kk,x,f,z,e,v,c,a,rs,gg,fs,bd,els⟩ := t
  simp only [PS'.body,PS'.els] at r1 r2
  obtain ⟨_,_,_,_,hoe,hov,hoc,hoa,⟨hrs,hro⟩,⟨hgg,_⟩,_⟩ := hok
  simp only [fT,stN,stP,stC,Prod.mk.injEq] at hs1
  obtain ⟨hn1,hc1,hp1⟩ := hs1
  simp only [vS,List.length_append] at hbs
  have e1 : vCs [c] = vC c := by simp [vCs]
  have e2 : vEs [e,v] = vE e ++ vE v := by simp [vEs]
  have d1 := Cf [e,v] (lg2 _ _) ⟨hoe,hov,trivial⟩ (by rw [e2,List.length_append]; omega) true
  have d2 := wL [c] (lg1 _) ⟨hoc,trivial⟩ (by rw [e1]; omega) true
  have d3 := tA rs hrs hro (by omega) false
  have d4 := ng a hoa
  have d5 := tZ ps z (by unfold Lg; omega)
  rw [e1,ni] at d2
  rw [e2,pg] at d1
  unfold jx at d4
  unfold Lg at hrs hgg
  have nA := (dP a).nm3
  have rA := (dP a).rn3
  obtain ⟨one,pu,len,g0,g1,g2,g3,s4,s8,s12,s15,g30,g31,g32,g33,g34⟩ := jG kk x f z e v c a rs gg fs bd els
  generalize psA (.mk kk x f z e v c a rs gg fs bd els) = SC at *
  generalize paA a = AA at *
  generalize fE a = b5 at *
  have hV : (vE e ++ vE v).length = (vE e).length + (vE v).length := List.length_append
  obtain ⟨V,hVd⟩ : ∃ V,V = (vE e ++ vE v) ++ vC c ++ vEs rs := ⟨_,rfl⟩
  have hVl : V.length = (vE e ++ vE v).length + (vC c).length + (vEs rs).length := by rw [hVd]; simp; omega
  have hVm : V.map bs = (vE e ++ vE v).map bs ++ (vC c).map bs ++ (vEs rs).map bs := by rw [hVd]; simp
  have hVa : (vE e ++ vE v ++ (vC c ++ vEs rs)) = V := by rw [hVd]; simp
  rw [hVa] at hn1
  clear hVa hVd e1 e2 g1 g2 g32
  generalize vE e ++ vE v = V1 at *
  generalize vC c = V2 at *
  generalize vEs rs = V3 at *
  obtain ⟨ek,en,ex,eks⟩ := e
  obtain ⟨vk,vn,vx,vks⟩ := v
  obtain ⟨ck,ce,cks⟩ := c
  simp only [ci,peA,ofB,List.length_cons,List.length_nil,Nat.reduceAdd,List.cons_append,List.nil_append] at d1 d2 d3 s4 s8 s12
  repeat' (first | (with_reducible refine hY _ ?_; clear hY Y) | ((with_reducible first | refine au rfl (ay fun K' hK' => aa ?_) | refine hK' _ (ab fun Y hY => aa ?_) | refine ab fun Y hY => aa ?_); (try clear hK' K'); (try dsimp only [aop]); try simp only [go_sem,seval,aD,Tryz.results27,hlt',hg0,hfl,len,one]) | (with_reducible first | refine ag ?_ | refine am ?_ | refine aG fun K hK => ?_ | refine az ?_ | refine av ?_ | refine aH ?_) | ((with_reducible refine bC 5 ?_ ?_); (· rfl)) | ((with_reducible refine aS 5 tk0 aD ?_ (ab fun Y hY => aa ?_)); (· rfl); (try dsimp only [aop]); try simp only [go_sem,seval,aD,Tryz.results27,hlt',hg0,hfl,len,one]) | (with_reducible refine hK _ ?_; clear hK K) | ((with_reducible refine ai ?_ ?_); (· decide)) | (with_reducible refine bm ?_ ?_; (· (try and_intros) <;> first | omega | assumption | (simp only [List.length_append,List.length_map,List.length_cons,List.length_nil] <;> omega))))
  refine dj 10010 ⟨by decide,by decide⟩ rfl rfl pu (by simp only [go_sem,seval]; exact rfl) ?_
  repeat' (first | (with_reducible refine hY _ ?_; clear hY Y) | ((with_reducible first | refine au rfl (ay fun K' hK' => aa ?_) | refine hK' _ (ab fun Y hY => aa ?_) | refine ab fun Y hY => aa ?_ | refine ac tk0 aD (ab fun Y hY => aa ?_) | refine aa ?_ | refine cG rfl (cQ fun K' hK' => aa ?_) | refine hK' _ _ (ab fun Y hY => aa ?_)); (try clear hK' K'); (try dsimp only [aop]); try simp only [go_sem,seval,aD,Tryz.results27,len,s4,s8,s12,g30]) | (with_reducible first | refine ag ?_ | refine am ?_ | refine aq ?_ | refine aG fun K hK => ?_ | refine av ?_ | refine bR ?_ | refine bK ?_ | refine ef fun K hK => ?_) | (with_reducible refine hK _ ?_; clear hK K) | (with_reducible refine hK _ _ ?_ ?_; (· kernel_rfl); clear hK K) | (with_reducible refine bV tk0 aD ?_ ?_; (· kernel_rfl)) | (with_reducible refine bm ?_ ?_; (· (try and_intros) <;> first | omega | assumption | (simp only [List.length_append,List.length_map,List.length_cons,List.length_nil] <;> omega))) | (with_reducible refine ae (d1) ?_) | (with_reducible refine ae (d2) ?_) | (with_reducible refine ae (d3) ?_))
  clear d1 d2 d3
  refine bX (α := Nat) (fun j => [(1,.sl (gs.map bs) gs.length .none),(2,.sl (du l) l.length .none),(4,.rf [dN ps] 0),(7,.loc 10007 0),(8,.loc 10008 0),(9,inA (k : Int)),(10,.rf SC 0),(11,.sl (V.map bs) V.length (.tok 10031)),(12,inA (j : Int)),
      (10007,.bc [.c (.bool (n0 || (V.take j).any gs.contains)),.c (.bool c0),.c (.bool p0)] 69),(10008,.bc [.c (.bool false),.c (.bool false),.c (.bool false)] 69),(10031,.bt V.length 9)])
    (fun j => j ≤ V.length) (fun j => V.length - j) 0 [1,2,4,7,8,9,10,11,12] ?_ (Nat.zero_le _) ?_
  · simp only [go_sem,seval,Bool.or_false,List.take_zero,List.any_nil,hVm,hVl] <;> rfl
  intro j hj ih
  by_cases hjl : j < V.length
  · have hjl' : ((j : Int) < (V.length : Int)) = True := eq_true (by omega)
    have hjw := dp (n := j) (by omega)
    have hj0 := i8 (f := bs) hjl
    have hjf : (V.map bs).length = V.length := List.length_map ..
    have hany := mH gs.contains hjl
    have d6 := oY gs V[j] false hgs'
    simp only [ofB] at d6
    have ihj := ih (j + 1) (by omega) (by omega)
    rw [hany] at ihj
    clear ih hany hn1 hc1 hp1 ihk r1 r2
    generalize V[j] = v at *
    generalize gs.contains v = b1 at *
    generalize (V.take j).any gs.contains = b2 at *
    obtain ⟨B,hB⟩ : ∃ B,B = (n0 || b2) := ⟨_,rfl⟩
    rw [← Bool.or_assoc,← hB] at ihj
    rw [← hB]
    clear hB
    cases B
    · repeat' (first | (with_reducible refine hY _ ?_; clear hY Y) | ((with_reducible first | refine au rfl (ay fun K' hK' => aa ?_) | refine hK' _ (ab fun Y hY => aa ?_) | refine bf rfl (ab fun Y hY => aa ?_) | refine ab fun Y hY => aa ?_ | refine ay fun K' hK' => aa ?_ | refine ac tk0 aD (ab fun Y hY => aa ?_) | refine aa ?_); (try clear hK' K'); (try dsimp only [aop]); try simp only [go_sem,seval,aD,Tryz.results27,hjl',hj0,hjf,hjw]) | (with_reducible first | refine ag ?_ | refine aK ?_ | refine am ?_ | refine aq ?_ | refine aG fun K hK => ?_ | refine az ?_ | refine ba ?_ | refine av ?_ | refine aH ?_) | (with_reducible refine hK _ ?_; clear hK K) | ((with_reducible first | refine aJ ?_ ?_ | refine ai ?_ ?_); (· decide)) | (with_reducible refine bm ?_ ?_; (· (try and_intros) <;> first | omega | assumption | (simp only [List.length_append,List.length_map,List.length_cons,List.length_nil] <;> omega))) | (with_reducible refine ae (d6) ?_))
      refine bg [1,2,4,7,8,9,10,11,12] (by simp only [go_sem,seval]; exact rfl) ?_
      simp only [Bool.false_or] at ihj
      exact ihj
    · repeat' (first | (with_reducible refine hY _ ?_; clear hY Y) | ((with_reducible first | refine au rfl (ay fun K' hK' => aa ?_) | refine hK' _ (ab fun Y hY => aa ?_) | refine bf rfl (ab fun Y hY => aa ?_) | refine ab fun Y hY => aa ?_ | refine ac tk0 aD (ab fun Y hY => aa ?_) | refine aa ?_); (try clear hK' K'); (try dsimp only [aop]); try simp only [go_sem,seval,aD,Tryz.results27,hjl',hj0,hjf,hjw]) | (with_reducible first | refine ag ?_ | refine aU rfl ?_ | refine cN ?_ ?_ | refine am ?_ | refine aq ?_ | refine aG fun K hK => ?_ | refine az ?_ | refine ba ?_ | refine av ?_ | refine aH ?_) | (with_reducible refine hK _ ?_; clear hK K) | ((with_reducible first | refine aJ ?_ ?_ | refine ai ?_ ?_); (· decide)) | (with_reducible refine bm ?_ ?_; (· (try and_intros) <;> first | omega | assumption | (simp only [List.length_append,List.length_map,List.length_cons,List.length_nil] <;> omega))) | (with_reducible refine ae (d6) ?_))
      refine bg [1,2,4,7,8,9,10,11,12] (by simp only [go_sem,seval]; exact rfl) ?_
      simp only [Bool.true_or] at ihj
      exact ihj
  · have hjl' : ((j : Int) < (V.length : Int)) = False := eq_false (by omega)
    rw [List.take_of_length_le (by omega)]
    clear ih
    rw [← Bool.or_assoc] at hn1
    generalize (n0 || V.any gs.contains) = N at *
    clear hj hjl hVl hVm
    repeat' (first | (with_reducible refine hY _ ?_; clear hY Y) | ((with_reducible first | refine au rfl (ay fun K' hK' => aa ?_) | refine hK' _ (ab fun Y hY => aa ?_) | refine ab fun Y hY => aa ?_); (try clear hK' K'); (try dsimp only [aop]); try simp only [go_sem,seval,aD,Tryz.results27,hjl']) | (with_reducible first | refine ag ?_ | refine am ?_ | refine aG fun K hK => ?_ | refine aA ?_ | refine bY ?_ | refine bF ?_ | refine bE ?_) | ((with_reducible refine bC 12 ?_ ?_); (· rfl)) | ((with_reducible refine aS 12 tk0 aD ?_ (ab fun Y hY => aa ?_)); (· rfl); (try dsimp only [aop]); try simp only [go_sem,seval,aD,Tryz.results27,hjl']) | (with_reducible refine hK _ ?_; clear hK K) | ((with_reducible refine ai ?_ ?_); (· decide)))
    apply fm (α := Unit) (fun _ => [(1,.sl (gs.map bs) gs.length .none),(2,.sl (du l) l.length .none),(4,.rf [dN ps] 0),(7,.loc 10007 0),(8,.loc 10008 0),(9,inA (k : Int)),(10,.rf SC 0),
      (10007,.bc [.c (.bool N),.c (.bool c0),.c (.bool p1)] 69),(10008,.bc [.c (.bool false),.c (.bool false),.c (.bool false)] 69)]) (fun _ => True)
    case use =>
      intro key
      by_cases k7 : kk = 7
      · have k7' : (kk = 7) = True := eq_true k7
        simp only [k7',decide_true,Bool.true_and] at hp1
        cases p0 <;> simp only [Bool.true_or,Bool.false_or] at hp1
        · repeat' (first | (with_reducible refine hY _ ?_; clear hY Y) | ((with_reducible first | refine au rfl (ay fun K' hK' => aa ?_) | refine hK' _ (ab fun Y hY => aa ?_) | refine bf rfl (ab fun Y hY => aa ?_) | refine ab fun Y hY => aa ?_ | refine ay fun K' hK' => aa ?_ | refine aa ?_); (try clear hK' K'); (try dsimp only [aop]); try simp only [go_sem,seval,aD,Tryz.results27,k7',g0,len,s15,nA,rA]) | (with_reducible first | refine ag ?_ | refine aK ?_ | refine am ?_ | refine aG fun K hK => ?_ | refine az ?_) | ((with_reducible refine bC 15 ?_ ?_); (· rfl)) | ((with_reducible refine aS 15 tk0 aD ?_ (ab fun Y hY => aa ?_)); (· rfl); (try dsimp only [aop]); try simp only [go_sem,seval,aD,Tryz.results27,k7',g0,len,s15,nA,rA]) | (with_reducible refine hK _ ?_; clear hK K) | ((with_reducible first | refine aJ ?_ ?_ | refine ai ?_ ?_); (· decide)) | (with_reducible refine ae (d4) ?_))
          refine b9 (L := [1,2,4,7,8,9,10]) (by simp only [go_sem,seval]; exact rfl) ?_
          rw [← hp1]
          exact key () trivial
        · repeat' (first | (with_reducible refine hY _ ?_; clear hY Y) | ((with_reducible first | refine au rfl (ay fun K' hK' => aa ?_) | refine hK' _ (ab fun Y hY => aa ?_) | refine bf rfl (ab fun Y hY => aa ?_) | refine ab fun Y hY => aa ?_ | refine aa ?_); (try clear hK' K'); (try dsimp only [aop]); try simp only [go_sem,seval,aD,Tryz.results27,k7',g0,len,s15,nA,rA]) | (with_reducible first | refine ag ?_ | refine aU rfl ?_ | refine cN ?_ ?_ | refine am ?_ | refine aG fun K hK => ?_ | refine az ?_) | ((with_reducible refine bC 15 ?_ ?_); (· rfl)) | ((with_reducible refine aS 15 tk0 aD ?_ (ab fun Y hY => aa ?_)); (· rfl); (try dsimp only [aop]); try simp only [go_sem,seval,aD,Tryz.results27,k7',g0,len,s15,nA,rA]) | (with_reducible refine hK _ ?_; clear hK K) | ((with_reducible first | refine aJ ?_ ?_ | refine ai ?_ ?_); (· decide)) | (with_reducible refine ae (d4) ?_))
          refine b9 (L := [1,2,4,7,8,9,10]) (by simp only [go_sem,seval]; exact rfl) ?_
          rw [hp1] at key
          exact key () trivial
      · have k7' : (kk = 7) = False := eq_false k7
        simp only [k7',decide_false,Bool.false_and,Bool.or_false] at hp1
        repeat' (first | (with_reducible refine hY _ ?_; clear hY Y) | ((with_reducible first | refine au rfl (ay fun K' hK' => aa ?_) | refine hK' _ (ab fun Y hY => aa ?_) | refine ab fun Y hY => aa ?_); (try clear hK' K'); (try dsimp only [aop]); try simp only [go_sem,seval,aD,Tryz.results27,k7',g0,len]) | (with_reducible first | refine ag ?_ | refine am ?_ | refine aG fun K hK => ?_ | refine aA ?_ | refine aH ?_) | ((with_reducible refine bC 15 ?_ ?_); (· rfl)) | ((with_reducible refine aS 15 tk0 aD ?_ (ab fun Y hY => aa ?_)); (· rfl); (try dsimp only [aop]); try simp only [go_sem,seval,aD,Tryz.results27,k7',g0,len]) | (with_reducible refine hK _ ?_; clear hK K) | ((with_reducible refine ai ?_ ?_); (· decide)))
        refine b9 (L := [1,2,4,7,8,9,10]) (by simp only [go_sem,seval]; exact rfl) ?_
        rw [← hp1]
        exact key () trivial
    case key =>
    rintro _ _
    clear d4 s15 nA rA hp1
    apply fm (α := Unit) (fun _ => [(1,.sl (gs.map bs) gs.length .none),(2,.sl (du l) l.length .none),(4,.rf [dN ps] 0),(7,.loc 10007 0),(8,.loc 10008 0),(9,inA (k : Int)),(10,.rf SC 0),
      (10007,.bc [.c (.bool n1),.c (.bool c1),.c (.bool p1)] 69),(10008,.bc [.c (.bool false),.c (.bool false),.c (.bool false)] 69)]) (fun _ => True)
    case use =>
      intro key
      by_cases k9 : kk = 9
      · have k9' : (kk = 9) = True := eq_true k9
        simp only [k9',decide_true,Bool.true_and] at hn1 hc1
        cases hf : gB ps z with
        | none =>
          rw [t6 hf] at d5
          rw [hf] at hn1 hc1
          simp only [Option.isNone_none,Bool.or_true,Bool.or_false] at hn1 hc1
          have hm1 : ((-1 : Int) < 0) = True := eq_true (by decide)
          repeat' (first | (with_reducible refine hY _ ?_; clear hY Y) | ((with_reducible first | refine au rfl (ay fun K' hK' => aa ?_) | refine hK' _ (ab fun Y hY => aa ?_) | refine ab fun Y hY => aa ?_ | refine aa ?_); (try clear hK' K'); (try dsimp only [aop]); try simp only [go_sem,seval,aD,Tryz.results27,k9',g0,g3,len,hm1]) | (with_reducible first | refine ag ?_ | refine am ?_ | refine aG fun K hK => ?_ | refine az ?_) | ((with_reducible refine bC 21 ?_ ?_); (· rfl)) | ((with_reducible refine aS 21 tk0 aD ?_ (ab fun Y hY => aa ?_)); (· rfl); (try dsimp only [aop]); try simp only [go_sem,seval,aD,Tryz.results27,k9',g0,g3,len,hm1]) | (with_reducible refine hK _ ?_; clear hK K) | ((with_reducible refine ai ?_ ?_); (· decide)) | (with_reducible refine ae (d5) ?_))
          refine b9 (L := [1,2,4,7,8,9,10]) (by simp only [go_sem,seval]; exact rfl) ?_
          rw [hn1,hc1] at key
          exact key () trivial
        | some i =>
          obtain ⟨hfi,hi⟩ := kT hf
          rw [hfi] at d5
          rw [hf] at hn1 hc1
          simp only [Option.isNone_some,Bool.or_false,List.getElem?_eq_getElem hi] at hn1 hc1
          have hm1 : ((i : Int) < 0) = False := eq_false (by omega)
          have hm2 : ((i : Int) < (ps.length : Int)) = True := eq_true (by omega)
          have hpl := gw ps
          obtain ⟨o1,_,o3,_,o4,o5,_,_,_⟩ := nl ps[i]
          have hq1 := tb hi 1 (by decide)
          have hq2 := tb hi 2 (by decide)
          rw [o4] at hq1
          rw [o5] at hq2
          have t1 : decide ((ps[i].params.length : Int) = (rs.length : Int)) = decide (ps[i].params.length = rs.length) := by rw [decide_eq_decide]; omega
          have t2 : decide ((ps[i].ghosts.length : Int) = (gg.length : Int)) = decide (ps[i].ghosts.length = gg.length) := by rw [decide_eq_decide]; omega
          clear o1 o3 o4 o5 hf hfi
          generalize ps[i].params.map bs = PB at *
          generalize ps[i].ghosts.map bs = GB at *
          generalize ps[i].params.length = l1 at *
          generalize ps[i].ghosts.length = l2 at *
          repeat' (first | (with_reducible refine hY _ ?_; clear hY Y) | ((with_reducible first | refine au rfl (ay fun K' hK' => aa ?_) | refine hK' _ (ab fun Y hY => aa ?_) | refine ab fun Y hY => aa ?_ | refine aa ?_ | refine cG rfl (cQ fun K' hK' => aa ?_) | refine hK' _ _ (ab fun Y hY => aa ?_) | refine fX rfl (ab fun Y hY => aa ?_) | refine cQ fun K' hK' => aa ?_); (try clear hK' K'); (try dsimp only [aop]); try simp only [go_sem,seval,aD,Tryz.results27,k9',g0,g3,g30,g31,len,hm1,hm2,hpl,hq1,hq2,t1,t2]) | (with_reducible first | refine ag ?_ | refine aU rfl ?_ | refine aK ?_ | refine cN ?_ ?_ | refine am ?_ | refine aG fun K hK => ?_ | refine az ?_ | refine aA ?_ | refine aH ?_ | refine bK ?_ | refine ef fun K hK => ?_) | ((with_reducible refine bC 21 ?_ ?_); (· rfl)) | ((with_reducible refine aS 21 tk0 aD ?_ (ab fun Y hY => aa ?_)); (· rfl); (try dsimp only [aop]); try simp only [go_sem,seval,aD,Tryz.results27,k9',g0,g3,g30,g31,len,hm1,hm2,hpl,hq1,hq2,t1,t2]) | (with_reducible refine hK _ ?_; clear hK K) | (with_reducible refine hK _ _ ?_ ?_; (· kernel_rfl); clear hK K) | ((with_reducible first | refine aJ ?_ ?_ | refine ai ?_ ?_); (· decide)) | ((with_reducible refine gh 21 tk0 aD ?_ ?_ ?_); (· rfl); (· kernel_rfl)) | ((with_reducible first | refine bP (fun hc => ?_) (fun hc => ?_) | refine fi (fun hc => ?_) (fun hc => ?_)) <;> (try simp only [decide_eq_true_eq,decide_eq_false_iff_not,Bool.not_true,Bool.not_false,Bool.not_eq_true',Bool.not_eq_false'] at hc) <;> (try (exfalso; omega))) | (with_reducible refine bm ?_ ?_; (· (try and_intros) <;> first | omega | assumption | (simp only [List.length_append,List.length_map,List.length_cons,List.length_nil] <;> omega))) | (with_reducible refine ae (d5) ?_))
          all_goals refine b9 (L := [1,2,4,7,8,9,10]) (by simp only [go_sem,seval]; exact rfl) ?_
          all_goals rw [← hn1]
          all_goals first
            | (have hT : c1 = true := by (clear key r1 r2 ihk d5; rw [hc1]; simp_all)
               rw [hT] at key
               exact key () trivial)
            | (have hT : c1 = c0 := by (clear key r1 r2 ihk d5; rw [hc1]; simp_all)
               rw [hT] at key
               exact key () trivial)
      · have k9' : (kk = 9) = False := eq_false k9
        simp only [k9',decide_false,Bool.false_and,Bool.or_false] at hn1 hc1
        repeat' (first | (with_reducible refine hY _ ?_; clear hY Y) | ((with_reducible first | refine au rfl (ay fun K' hK' => aa ?_) | refine hK' _ (ab fun Y hY => aa ?_) | refine ab fun Y hY => aa ?_); (try clear hK' K'); (try dsimp only [aop]); try simp only [go_sem,seval,aD,Tryz.results27,k9',g0,len]) | (with_reducible first | refine ag ?_ | refine am ?_ | refine aG fun K hK => ?_ | refine aA ?_ | refine aH ?_) | ((with_reducible refine bC 21 ?_ ?_); (· rfl)) | ((with_reducible refine aS 21 tk0 aD ?_ (ab fun Y hY => aa ?_)); (· rfl); (try dsimp only [aop]); try simp only [go_sem,seval,aD,Tryz.results27,k9',g0,len]) | (with_reducible refine hK _ ?_; clear hK K) | ((with_reducible refine ai ?_ ?_); (· decide)))
        refine b9 (L := [1,2,4,7,8,9,10]) (by simp only [go_sem,seval]; exact rfl) ?_
        rw [← hn1,← hc1]
        exact key () trivial
    case key =>
    rintro _ _
    clear d5 hn1 hc1
    repeat' (first | (with_reducible refine hY _ ?_; clear hY Y) | ((with_reducible first | refine au rfl (ay fun K' hK' => aa ?_) | refine hK' _ (ab fun Y hY => aa ?_) | refine ac tk0 aD (ab fun Y hY => aa ?_) | refine aa ?_); (try clear hK' K'); (try dsimp only [aop]); try simp only [go_sem,seval,aD,Tryz.results27,len,g33,g34,hkw]) | (with_reducible first | refine ag ?_ | refine am ?_ | refine aq ?_ | refine aG fun K hK => ?_ | refine ba ?_) | (with_reducible refine hK _ ?_; clear hK K) | (with_reducible refine ae (r1) ?_) | (with_reducible refine ae (r2) ?_))
    refine bg [1,2,4,7,8,9] (by simp only [go_sem,seval]; exact rfl) ?_
    exact ihk
abbrev xQ (ps : List PP) (gs : List Wd) (s : PS') : Prop := (BdS s.body → xP ps gs s.body) ∧ (BdS s.els → xP ps gs s.els)
mutual
theorem Ds (ps : List PP) (hps : Lg ps) (gs : List Wd) (hgs : gs.length ≤ 1000) : ∀ s,OkS s → xQ ps gs s
  | .mk k x f y e v c a rs gg fs b l,h => ⟨fun hB => vH ps hps gs hgs b h.2.2.2.2.2.2.2.2.2.2.2.1.1 h.2.2.2.2.2.2.2.2.2.2.2.1.2 hB (fun s hs => (jq ps hps gs hgs b h.2.2.2.2.2.2.2.2.2.2.2.1.2 s hs).1 (hB.own hs).2.1) (fun s hs => (jq ps hps gs hgs b h.2.2.2.2.2.2.2.2.2.2.2.1.2 s hs).2 (hB.own hs).2.2),
      fun hB => vH ps hps gs hgs l h.2.2.2.2.2.2.2.2.2.2.2.2.1 h.2.2.2.2.2.2.2.2.2.2.2.2.2 hB (fun s hs => (jq ps hps gs hgs l h.2.2.2.2.2.2.2.2.2.2.2.2.2 s hs).1 (hB.own hs).2.1) (fun s hs => (jq ps hps gs hgs l h.2.2.2.2.2.2.2.2.2.2.2.2.2 s hs).2 (hB.own hs).2.2)⟩
theorem jq (ps : List PP) (hps : Lg ps) (gs : List Wd) (hgs : gs.length ≤ 1000) : ∀ l,gr l → ∀ s ∈ l,xQ ps gs s
  | [],_ => fun e he => absurd he List.not_mem_nil
  | a :: l,h => gj (P := xQ ps gs) (Ds ps hps gs hgs a h.1) (jq ps hps gs hgs l h.2)
end
theorem xD (ps : List PP) (hps : Lg ps) (gs : List Wd) (hgs : gs.length ≤ 1000) (l : List PS') (hl : Lg l) (ho : gr l) (hbd : BdS l) (st : Bool × Bool × Bool) : AFn Tryz.prog 27 [.agg [dN ps],.sl (gs.map bs) gs.length .none,.sl (du l) l.length .none,.agg [.c (.bool st.1),.c (.bool st.2.1),.c (.bool st.2.2)]] []
    (.agg [.c (.bool (st.1 || (flL l).any (stN ps gs))),.c (.bool (st.2.1 || (flL l).any (stC ps))),.c (.bool (st.2.2 || (flL l).any stP))]) [] := by
  have h := vH ps hps gs hgs l hl ho hbd (fun s hs => (jq ps hps gs hgs l ho s hs).1 (hbd.own hs).2.1) (fun s hs => (jq ps hps gs hgs l ho s hs).2 (hbd.own hs).2.2) st
  unfold da at h
  rw [Cx] at h
  exact h
end Go.Proofs.YtkjnkkmokojnpaaGreatDoor

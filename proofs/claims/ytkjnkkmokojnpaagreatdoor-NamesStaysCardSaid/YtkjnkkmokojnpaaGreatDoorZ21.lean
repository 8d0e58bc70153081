/- What is amiss with a procedure's names: the code's proc, in K. -/
import Derived.Test.YtkjnkkmokojnpaaGreatDoorZ20
namespace Go.Proofs.YtkjnkkmokojnpaaGreatDoor
set_option linter.unusedSimpArgs false
set_option linter.unusedVariables false
open Go.RowKit
theorem v6 (l : List Wd) : FlatP (l.map bs) := fun x hx => by
 obtain ⟨y,_,rfl⟩ := List.mem_map.1 hx
 exact .inl ⟨_,rfl⟩
theorem pD {α : Type} {p q : α → Bool} : ∀ {l : List α},(∀ x ∈ l,p x = q x) → l.any p = l.any q
 | [],_ => rfl
 | a :: r,h => by rw [List.any_cons,List.any_cons,h a (by simp),pD fun x hx => h x (by simp [hx])]
theorem ze (ps : List PP) (i : Nat) (h : i ≤ ps.length) : (ps.flatMap ppA).take (i * 34) = (ps.take i).flatMap ppA := by
 have h1 : ps.flatMap ppA = (ps.take i).flatMap ppA ++ (ps.drop i).flatMap ppA := by rw [← List.flatMap_append,List.take_append_drop]
 have h2 : ((ps.take i).flatMap ppA).length = i * 34 := by rw [gw,List.length_take,Nat.min_eq_left h]
 rw [h1,List.take_left' h2]
def tc (ps : List PP) (i : Nat) (x : PP) : Nat := if vI ps i x then 13 else if qi ps x then 12 else if (flL x.body).any (uy ps) then 14 else if vl x then 1 else 0
theorem zf (ps : List PP) (i : Nat) (x : PP) : tc ps i x = jE ps i x := by
 unfold tc jE
 cases hn : qi ps x with
 | true => simp
 | false =>
  have h1 : (flL x.body).any (stN ps x.ghosts) = false := by
   unfold qi at hn
   rw [Bool.or_eq_false_iff] at hn
   exact hn.1
  have h2 : (flL x.body).any (uy ps) = oV ps x := by
   unfold oV
   rw [List.any_eq_false] at h1
   refine pD ?_
   intro s hs
   have h3 := h1 s hs
   obtain ⟨k,nx,f,z,e,v,c,a,rs,gs,fs,bd,els⟩ := s
   simp only [uy,stC]
   by_cases hk : k = 9
   ·have h4 : (gB ps z).isNone = false := by
     cases hz : (gB ps z).isNone with
     | false => rfl
     | true => exact absurd (by simp [stN,hk,hz]) h3
    cases hf : gB ps z with
    | none => rw [hf] at h4; cases h4
    | some i => simp only [Option.bind_some,List.getElem?_eq_getElem (kT hf).2]
   ·simp [hk]
  rw [h2]
def aE : Nat → List Nat
 | 0 => [0,1]
 | 1 => [1,2]
 | 2 => [1,2,5]
 | 3 => [1,2,5,6]
 | 4 => [1,2,5,6,7]
 | 5 => []
 | 6 => [2,5,6]
 | 7 => [2,5,8]
 | 8 => [2,5,8,9]
 | 9 => [2,5,8,9,10]
 | 10 => [2,5,9,10]
 | 11 => [2,5,9,10,11]
 | 12 => [2,5,9,10,11,12]
 | 13 => [10,11,12]
 | 14 => []
 | 15 => [11,12]
 | 16 => []
 | 17 => [12]
 | 18 => []
 | 19 => []
 | _ => []
set_option maxRecDepth 100000 in
set_option maxHeartbeats 64000000 in
theorem Do (ps : List PP) (hps : kL ps) (i : Nat) (hi : i < ps.length) (hl1 : ps[i].params.length ≤ 50) (hl2 : ps[i].ghosts.length ≤ 50) (hasg : (jK [] ps[i].body).length ≤ 1099511627776) :
  AFn Tryz.prog 24 [.agg [dN ps],inA (i : Int)] [] (eM (jE ps i ps[i])) [] := by
 rw [← zf]
 have hfl := gw ps
 have hg0 := jN hi
 have hgt := ze ps i (by omega)
 have hlt' : ((i : Int) < (ps.length : Int)) = True := eq_true (by omega)
 have hle' : ((i : Int) ≤ (ps.length : Int)) = True := eq_true (by omega)
 obtain ⟨hpl,hpo⟩ := hps
 have hox := hpo ps[i] (List.getElem_mem hi)
 generalize hX : ps[i] = X at *
 obtain ⟨_,_,_,hpre,hpost,hbl,hbo⟩ := hox
 have d1 := Az (ps.take i) 68 (ppA X) (fun o => o.name == X.name) rfl (by unfold Lg at hpl ⊢; rw [List.length_take]; omega) fun y _ => Em y X
 rw [List.length_take,Nat.min_eq_left (by omega : i ≤ ps.length)] at d1
 have hown : X.own.length ≤ 100 := by unfold PP.own; rw [List.length_append]; omega
 have d2 := yd X.params X.ghosts (by omega)
 have d3 := zO X.own false
 have d6 := iS X.own oq (by omega)
 have cown := En X.own (by omega)
 have cgh := Eo X (by omega)
 have d7 := uR X.body hbl hbo hasg
 have d8 := AG (jK [] X.body) 71 [.sl (X.own.map bs) X.own.length .none] (fun w => X.own.contains w) rfl (by unfold Lg; omega) fun y _ => CH X.own (by omega) y
 have d9 := yH (Ep cown) X.pre hpre
 have d10 := yH (Eq cown) X.post hpost
 have d11 := nB X.pre hpre
 have d12 := nB X.post hpost
 obtain ⟨hx1,hxp,hxl,_,hf1,hf2,hf3,hf18,hf33⟩ := nl X
 have nP := (dP X.pre).nm3
 have nQ := (dP X.post).nm3
 have rP := (dP X.pre).rn3
 have rQ := (dP X.post).rn3
 generalize ppA X = XC at *
 have dE := fun (n0 p0 : Bool) => An 80 (isF 72 XC) (dN ps) (l8 ps X.ghosts) rfl (fun s hs st _ => Er ps hpl cgh s hs st) X.body hbl hbo (n0,p0,false) trivial
 unfold da at dE
 simp only [Cy,Bool.false_or] at dE
 unfold tH at d9 d10
 unfold je at d11 d12
 rw [xY] at d9 d10
 have hoN : X.params ++ X.ghosts = X.own := rfl
 rw [hoN] at d2
 have hP : tc ps i X = if ((ps.take i).any (fun o => o.name == X.name) || (X.own.contains oq || mO X.own)) = true then 13 else if ((flL X.body).any (stN ps X.ghosts) || ((jK [] X.body).any (fun w => X.own.contains w) || ((vA X.pre).any (fun w => !X.own.contains w) || (vA X.post).any (fun w => !X.own.contains w && !(w == oq))))) = true then 12 else if (flL X.body).any (uy ps) = true then 14 else if ((flL X.body).any stP || (fE X.pre || fE X.post)) = true then 1 else 0 := rfl
 generalize hR : tc ps i X = R at *
 have hcd := tR X.own
 generalize (ps.take i).any (fun o => o.name == X.name) = a1 at *
 generalize X.own.contains oq = a3 at *
 unfold oq at d6
 generalize mO X.own = a2 at *
 generalize (flL X.body).any (stN ps X.ghosts) = f1 at *
 generalize (flL X.body).any stP = f2 at *
 generalize (flL X.body).any (uy ps) = f3 at *
 generalize (jK [] X.body).any (fun w => X.own.contains w) = m1 at *
 generalize (vA X.pre).any (fun w => !X.own.contains w) = m2 at *
 generalize (vA X.post).any (fun w => !X.own.contains w && !(w == oq)) = m3 at *
 generalize fE X.pre = g1 at *
 generalize fE X.post = g2 at *
 generalize jK [] X.body = AS at *
 clear hpo hpre hpost hbl hbo hR hX cown cgh hasg
 have dz : X.own = [] → AFn Tryz.prog 65 [.fn (.func 155) [] [.rf [.sl (X.own.map bs) X.own.length .none] 0]] [] (.sl [] 0 .full) [] := fun e => by rw [e]; exact zx .none
 have dn : X.own ≠ [] → AFn Tryz.prog 65 [.fn (.func 155) [] [.rf [.sl (X.own.map bs) X.own.length .none] 0]] [] (.arr 20000 0 X.own.length 9) [.bc ((srt X.own).map bs) 9] := zw X.own .none (by omega)
 have hsl : (srt X.own).length = X.own.length := List.length_mergeSort _
 have dk := wZ (srt X.own) (by omega)
 rw [hsl] at dk
 have h00 : X.own = [] → (Lib.compact (X.own.mergeSort fun x y => decide (x ≤ y))).length = 0 ∧ X.own.length = 0 := fun e => by rw [e]; exact ⟨Nat.le_zero.1 (by have := jz (srt []); simpa using this),rfl⟩
 have hml := jz (srt X.own)
 generalize hm : (Lib.compact (X.own.mergeSort fun x y => decide (x ≤ y))).length = m at *
 have nS := (v6 (srt X.own)).nm3
 have rS := fun g => (v6 (srt X.own)).rn g 3
 have nK := (v6 (mJ (srt X.own))).nm3
 have rK := fun g => (v6 (mJ (srt X.own))).rn g 3
 simp only [Nat.reduceAdd] at rS rK
 generalize (srt X.own).map bs = SB at *
 generalize (mJ (srt X.own)).map bs = KB at *
 generalize hn : X.own.length = n at *
 generalize X.own.map bs = OB at *
 have hcd' : decide ((m : Int) < (n : Int)) = a2 := by rw [← hcd,decide_eq_decide]; omega
 simp only [ofB] at d3
 generalize (ps.take i).flatMap ppA = TB at *
 have hTl : ((i : Int) ≤ (ps.length : Int)) = True := hle'
 generalize AS.map bs = AB at *
 generalize AS.length = al at *
 generalize paA X.pre = PRE at *
 generalize paA X.post = POST at *
 generalize X.params.map bs = PB at *
 generalize X.params.length = pl at *
 generalize X.ghosts.map bs = GB at *
 generalize X.ghosts.length = gl at *
 generalize du X.body = BB at *
 generalize X.body.length = bl at *
 refine aM [] Tryz.func24 rfl Tryz.ntmps24 (Nat.le_of_ble_eq_true rfl) (Nat.le_of_ble_eq_true rfl) fun w0 G0 B0 Pr hB0 => ?_
 simp only [aW,aL,List.cons_append,List.nil_append]
 repeat' (first | (with_reducible refine hY _ ?_; clear hY Y) | ((with_reducible first | refine au rfl (ay fun K' hK' => aa ?_) | refine hK' _ (ab fun Y hY => aa ?_)); (try clear hK' K'); (try dsimp only [aop]); try simp only [go_sem,seval,aE,Tryz.results24]) | (with_reducible first | refine ag ?_ | refine am ?_ | refine aG fun K hK => ?_) | ((with_reducible refine bC 1 ?_ ?_); (· rfl)) | ((with_reducible refine aS 1 tk0 aE ?_ (ab fun Y hY => aa ?_)); (· rfl); (try dsimp only [aop]); try simp only [go_sem,seval,aE,Tryz.results24]) | (with_reducible refine hK _ ?_; clear hK K))
 refine dj 10002 ⟨by decide,by decide⟩ rfl rfl (by simp only [go_sem,seval]; exact rfl) (by simp only [go_sem,seval]; exact rfl) ?_
 repeat' (first | (with_reducible refine hY _ ?_; clear hY Y) | ((with_reducible first | refine au rfl (ay fun K' hK' => aa ?_) | refine hK' _ (ab fun Y hY => aa ?_)); (try clear hK' K'); (try dsimp only [aop]); try simp only [go_sem,seval,aE,Tryz.results24,hlt',hg0,hfl,hxl,hx1]) | (with_reducible first | refine ag ?_ | refine am ?_ | refine aG fun K hK => ?_) | ((with_reducible refine bC 2 ?_ ?_); (· rfl)) | ((with_reducible refine aS 2 tk0 aE ?_ (ab fun Y hY => aa ?_)); (· rfl); (try dsimp only [aop]); try simp only [go_sem,seval,aE,Tryz.results24,hlt',hg0,hfl,hxl,hx1]) | (with_reducible refine hK _ ?_; clear hK K) | (with_reducible refine bm ?_ ?_; (· (try and_intros) <;> first | omega | assumption | (simp only [List.length_append,List.length_map,List.length_cons,List.length_nil] <;> omega))))
 refine dj 10005 ⟨by decide,by decide⟩ rfl rfl hxp (by simp only [go_sem,seval]; exact rfl) ?_
 repeat' (first | (with_reducible refine hY _ ?_; clear hY Y) | ((with_reducible first | refine au rfl (ay fun K' hK' => aa ?_) | refine hK' _ (ab fun Y hY => aa ?_) | refine aa ?_); (try clear hK' K'); (try dsimp only [aop]); try simp only [go_sem,seval,aE,Tryz.results24,hf1,hf2,hxl]) | (with_reducible first | refine ag ?_ | refine am ?_ | refine aG fun K hK => ?_) | ((with_reducible refine bC 3 ?_ ?_); (· rfl)) | ((with_reducible refine aS 3 tk0 aE ?_ (ab fun Y hY => aa ?_)); (· rfl); (try dsimp only [aop]); try simp only [go_sem,seval,aE,Tryz.results24,hf1,hf2,hxl]) | (with_reducible refine hK _ ?_; clear hK K) | (with_reducible refine ae (d2) ?_))
 refine dj 10006 ⟨by decide,by decide⟩ rfl rfl (by simp only [go_sem,seval]; exact rfl) (by simp only [go_sem,seval]; exact rfl) ?_
 apply fm (α := Unit) (fun _ => [(2,.rf [.sl (ps.flatMap ppA) ps.length .none] 0),(5,.rf XC 0),(6,.rf [.sl OB n .none] 0)]) (fun _ => R = if (f1 || (m1 || (m2 || m3))) = true then 12 else if f3 = true then 14 else if (f2 || (g1 || g2)) = true then 1 else 0)
 case use =>
  intro key
  by_cases hown0 : X.own = []
  ·obtain ⟨m0,n00⟩ := h00 hown0
   have dz' := dz hown0
   have hn0 : ((0 : Int) < (n : Int)) = False := eq_false (by omega)
   have ha2 : a2 = false := by rw [← hcd']; exact decide_eq_false (by omega)
   have dcz := w5
   by_cases ha1 : a1 = true
   ·have hR13 : R = 13 := by rw [hP,ha1]; simp
    rw [hR13,dq (e := 13) (by decide)]
    clear key
    repeat' (first | (with_reducible refine hY _ ?_; clear hY Y) | ((with_reducible first | refine au rfl (ay fun K' hK' => aa ?_) | refine hK' _ (ab fun Y hY => aa ?_) | refine ab fun Y hY => aa ?_ | refine aa ?_ | refine ax ?_ | refine cG rfl (cQ fun K' hK' => aa ?_) | refine hK' _ _ (ab fun Y hY => aa ?_) | refine fX rfl (ab fun Y hY => aa ?_)); (try clear hK' K'); (try dsimp only [aop]); try simp only [go_sem,seval,aE,Tryz.results24,hgt,hTl,ha1]) | (with_reducible first | refine ag ?_ | refine aU rfl ?_ | refine cN ?_ ?_ | refine am ?_ | refine aG fun K hK => ?_ | refine az ?_ | refine bh ?_ | refine aB ?_ | refine bK ?_ | refine ef fun K hK => ?_) | ((with_reducible refine bC 6 ?_ ?_); (· rfl)) | ((with_reducible refine aS 6 tk0 aE ?_ (ab fun Y hY => aa ?_)); (· rfl); (try dsimp only [aop]); try simp only [go_sem,seval,aE,Tryz.results24,hgt,hTl,ha1]) | (with_reducible refine hK _ ?_; clear hK K) | (with_reducible refine hK _ _ ?_ ?_; (· kernel_rfl); clear hK K) | ((with_reducible first | refine aJ ?_ ?_ | refine ai ?_ ?_); (· decide)) | ((with_reducible refine gh 6 tk0 aE ?_ ?_ ?_); (· rfl); (· kernel_rfl)) | (with_reducible refine bm ?_ ?_; (· (try and_intros) <;> first | omega | assumption | (simp only [List.length_append,List.length_map,List.length_cons,List.length_nil] <;> omega))) | (with_reducible refine ae (d1) ?_) | (with_reducible refine ae (d3) ?_) | (with_reducible refine ae (dz') ?_))
    all_goals try rfl
   have ha1 : a1 = false := by simpa using ha1
   by_cases ha3 : a3 = true
   ·have hR13 : R = 13 := by rw [hP,ha3]; simp
    rw [hR13,dq (e := 13) (by decide)]
    clear key
    repeat' (first | (with_reducible refine hY _ ?_; clear hY Y) | ((with_reducible first | refine au rfl (ay fun K' hK' => aa ?_) | refine hK' _ (ab fun Y hY => aa ?_) | refine ab fun Y hY => aa ?_ | refine aa ?_ | refine ax ?_ | refine cG rfl (cQ fun K' hK' => aa ?_) | refine hK' _ _ (ab fun Y hY => aa ?_) | refine fX rfl (ab fun Y hY => aa ?_) | refine cQ fun K' hK' => aa ?_); (try clear hK' K'); (try dsimp only [aop]); try simp only [go_sem,seval,aE,Tryz.results24,hgt,hTl,hn0,ha1,ha3]) | (with_reducible first | refine ag ?_ | refine aK ?_ | refine am ?_ | refine aG fun K hK => ?_ | refine az ?_ | refine bh ?_ | refine aB ?_ | refine bK ?_ | refine ef fun K hK => ?_) | ((with_reducible refine bC 6 ?_ ?_); (· rfl)) | ((with_reducible refine aS 6 tk0 aE ?_ (ab fun Y hY => aa ?_)); (· rfl); (try dsimp only [aop]); try simp only [go_sem,seval,aE,Tryz.results24,hgt,hTl,hn0,ha1,ha3]) | (with_reducible refine hK _ ?_; clear hK K) | (with_reducible refine hK _ _ ?_ ?_; (· kernel_rfl); clear hK K) | ((with_reducible first | refine aJ ?_ ?_ | refine ai ?_ ?_); (· decide)) | ((with_reducible refine gh 6 tk0 aE ?_ ?_ ?_); (· rfl); (· kernel_rfl)) | ((with_reducible refine bP (fun hc => ?_) (fun hc => ?_)) <;> (try simp only [decide_eq_true_eq,decide_eq_false_iff_not,Bool.not_true,Bool.not_false,Bool.not_eq_true',Bool.not_eq_false'] at hc) <;> (try (exfalso; omega))) | (with_reducible refine bm ?_ ?_; (· (try and_intros) <;> first | omega | assumption | (simp only [List.length_append,List.length_map,List.length_cons,List.length_nil] <;> omega))) | (with_reducible refine ae (d1) ?_) | (with_reducible refine ae (d3) ?_) | (with_reducible refine ae (dz') ?_) | (with_reducible refine ae (dcz) ?_) | (with_reducible refine ae (d6) ?_))
    all_goals try rfl
   have ha3 : a3 = false := by simpa using ha3
   repeat' (first | (with_reducible refine hY _ ?_; clear hY Y) | ((with_reducible first | refine au rfl (ay fun K' hK' => aa ?_) | refine hK' _ (ab fun Y hY => aa ?_) | refine ab fun Y hY => aa ?_ | refine aa ?_ | refine cG rfl (cQ fun K' hK' => aa ?_) | refine hK' _ _ (ab fun Y hY => aa ?_) | refine fX rfl (ab fun Y hY => aa ?_) | refine cQ fun K' hK' => aa ?_); (try clear hK' K'); (try dsimp only [aop]); try simp only [go_sem,seval,aE,Tryz.results24,hgt,hTl,hn0,ha1,ha3]) | (with_reducible first | refine ag ?_ | refine aK ?_ | refine am ?_ | refine aG fun K hK => ?_ | refine aA ?_ | refine aH ?_ | refine bK ?_ | refine ef fun K hK => ?_) | ((with_reducible refine bC 6 ?_ ?_); (· rfl)) | ((with_reducible refine aS 6 tk0 aE ?_ (ab fun Y hY => aa ?_)); (· rfl); (try dsimp only [aop]); try simp only [go_sem,seval,aE,Tryz.results24,hgt,hTl,hn0,ha1,ha3]) | (with_reducible refine hK _ ?_; clear hK K) | (with_reducible refine hK _ _ ?_ ?_; (· kernel_rfl); clear hK K) | ((with_reducible first | refine aJ ?_ ?_ | refine ai ?_ ?_); (· decide)) | ((with_reducible refine gh 6 tk0 aE ?_ ?_ ?_); (· rfl); (· kernel_rfl)) | ((with_reducible refine bP (fun hc => ?_) (fun hc => ?_)) <;> (try simp only [decide_eq_true_eq,decide_eq_false_iff_not,Bool.not_true,Bool.not_false,Bool.not_eq_true',Bool.not_eq_false'] at hc) <;> (try (exfalso; omega))) | (with_reducible refine bm ?_ ?_; (· (try and_intros) <;> first | omega | assumption | (simp only [List.length_append,List.length_map,List.length_cons,List.length_nil] <;> omega))) | (with_reducible refine ae (d1) ?_) | (with_reducible refine ae (d3) ?_) | (with_reducible refine ae (dz') ?_) | (with_reducible refine ae (dcz) ?_) | (with_reducible refine ae (d6) ?_))
   refine b9 (L := [2,5,6]) (by simp only [go_sem,seval]; exact rfl) ?_
   exact key () (by rw [hP,ha1,ha2,ha3]; rfl)
  ·have dn' := dn hown0
   by_cases ha1 : a1 = true
   ·have hR13 : R = 13 := by rw [hP,ha1]; simp
    rw [hR13,dq (e := 13) (by decide)]
    clear key
    repeat' (first | (with_reducible refine hY _ ?_; clear hY Y) | ((with_reducible first | refine au rfl (ay fun K' hK' => aa ?_) | refine hK' _ (ab fun Y hY => aa ?_) | refine ab fun Y hY => aa ?_ | refine aa ?_ | refine ax ?_ | refine cG rfl (cQ fun K' hK' => aa ?_) | refine hK' _ _ (ab fun Y hY => aa ?_) | refine fX rfl (ab fun Y hY => aa ?_)); (try clear hK' K'); (try dsimp only [aop]); try simp only [go_sem,seval,aE,Tryz.results24,hgt,hTl,ha1,nS,rS,nK,rK]) | (with_reducible first | refine ag ?_ | refine aU rfl ?_ | refine cN ?_ ?_ | refine am ?_ | refine aG fun K hK => ?_ | refine az ?_ | refine bh ?_ | refine aB ?_ | refine bK ?_ | refine ef fun K hK => ?_) | ((with_reducible refine bC 6 ?_ ?_); (· rfl)) | ((with_reducible refine aS 6 tk0 aE ?_ (ab fun Y hY => aa ?_)); (· rfl); (try dsimp only [aop]); try simp only [go_sem,seval,aE,Tryz.results24,hgt,hTl,ha1,nS,rS,nK,rK]) | (with_reducible refine hK _ ?_; clear hK K) | (with_reducible refine hK _ _ ?_ ?_; (· kernel_rfl); clear hK K) | ((with_reducible first | refine aJ ?_ ?_ | refine ai ?_ ?_); (· decide)) | ((with_reducible refine gh 6 tk0 aE ?_ ?_ ?_); (· rfl); (· kernel_rfl)) | (with_reducible refine bm ?_ ?_; (· (try and_intros) <;> first | omega | assumption | (simp only [List.length_append,List.length_map,List.length_cons,List.length_nil] <;> omega))) | (with_reducible refine ae (d1) ?_) | (with_reducible refine ae (d3) ?_) | (with_reducible refine ae (dn') ?_))
    all_goals try rfl
   have ha1 : a1 = false := by simpa using ha1
   by_cases ha2 : a2 = true
   ·have hR13 : R = 13 := by rw [hP,ha2]; simp
    rw [hR13,dq (e := 13) (by decide)]
    clear key
    repeat' (first | (with_reducible refine hY _ ?_; clear hY Y) | ((with_reducible first | refine au rfl (ay fun K' hK' => aa ?_) | refine hK' _ (ab fun Y hY => aa ?_) | refine ab fun Y hY => aa ?_ | refine aa ?_ | refine ax ?_ | refine cG rfl (cQ fun K' hK' => aa ?_) | refine hK' _ _ (ab fun Y hY => aa ?_) | refine fX rfl (ab fun Y hY => aa ?_) | refine cQ fun K' hK' => aa ?_); (try clear hK' K'); (try dsimp only [aop]); try simp only [go_sem,seval,aE,Tryz.results24,hgt,hTl,hcd',ha1,ha2,nS,rS,nK,rK]) | (with_reducible first | refine ag ?_ | refine aU rfl ?_ | refine aK ?_ | refine cN ?_ ?_ | refine am ?_ | refine aG fun K hK => ?_ | refine az ?_ | refine bh ?_ | refine aB ?_ | refine bK ?_ | refine ef fun K hK => ?_) | ((with_reducible refine bC 6 ?_ ?_); (· rfl)) | ((with_reducible refine aS 6 tk0 aE ?_ (ab fun Y hY => aa ?_)); (· rfl); (try dsimp only [aop]); try simp only [go_sem,seval,aE,Tryz.results24,hgt,hTl,hcd',ha1,ha2,nS,rS,nK,rK]) | (with_reducible refine hK _ ?_; clear hK K) | (with_reducible refine hK _ _ ?_ ?_; (· kernel_rfl); clear hK K) | ((with_reducible first | refine aJ ?_ ?_ | refine ai ?_ ?_); (· decide)) | ((with_reducible refine gh 6 tk0 aE ?_ ?_ ?_); (· rfl); (· kernel_rfl)) | (with_reducible refine bm ?_ ?_; (· (try and_intros) <;> first | omega | assumption | (simp only [List.length_append,List.length_map,List.length_cons,List.length_nil] <;> omega))) | (with_reducible refine ae (d1) ?_) | (with_reducible refine ae (d3) ?_) | (with_reducible refine ae (dn') ?_) | (with_reducible refine ae (dk) ?_))
    all_goals try rfl
   have ha2 : a2 = false := by simpa using ha2
   by_cases ha3 : a3 = true
   ·have hR13 : R = 13 := by rw [hP,ha3]; simp
    rw [hR13,dq (e := 13) (by decide)]
    clear key
    repeat' (first | (with_reducible refine hY _ ?_; clear hY Y) | ((with_reducible first | refine au rfl (ay fun K' hK' => aa ?_) | refine hK' _ (ab fun Y hY => aa ?_) | refine ab fun Y hY => aa ?_ | refine aa ?_ | refine ax ?_ | refine cG rfl (cQ fun K' hK' => aa ?_) | refine hK' _ _ (ab fun Y hY => aa ?_) | refine fX rfl (ab fun Y hY => aa ?_) | refine cQ fun K' hK' => aa ?_); (try clear hK' K'); (try dsimp only [aop]); try simp only [go_sem,seval,aE,Tryz.results24,hgt,hTl,hcd',ha1,ha2,ha3,nS,rS,nK,rK]) | (with_reducible first | refine ag ?_ | refine aK ?_ | refine am ?_ | refine aG fun K hK => ?_ | refine az ?_ | refine bh ?_ | refine aB ?_ | refine bK ?_ | refine ef fun K hK => ?_) | ((with_reducible refine bC 6 ?_ ?_); (· rfl)) | ((with_reducible refine aS 6 tk0 aE ?_ (ab fun Y hY => aa ?_)); (· rfl); (try dsimp only [aop]); try simp only [go_sem,seval,aE,Tryz.results24,hgt,hTl,hcd',ha1,ha2,ha3,nS,rS,nK,rK]) | (with_reducible refine hK _ ?_; clear hK K) | (with_reducible refine hK _ _ ?_ ?_; (· kernel_rfl); clear hK K) | ((with_reducible first | refine aJ ?_ ?_ | refine ai ?_ ?_); (· decide)) | ((with_reducible refine gh 6 tk0 aE ?_ ?_ ?_); (· rfl); (· kernel_rfl)) | (with_reducible refine bm ?_ ?_; (· (try and_intros) <;> first | omega | assumption | (simp only [List.length_append,List.length_map,List.length_cons,List.length_nil] <;> omega))) | (with_reducible refine ae (d1) ?_) | (with_reducible refine ae (d3) ?_) | (with_reducible refine ae (dn') ?_) | (with_reducible refine ae (dk) ?_) | (with_reducible refine ae (d6) ?_))
    all_goals try rfl
   have ha3 : a3 = false := by simpa using ha3
   repeat' (first | (with_reducible refine hY _ ?_; clear hY Y) | ((with_reducible first | refine au rfl (ay fun K' hK' => aa ?_) | refine hK' _ (ab fun Y hY => aa ?_) | refine ab fun Y hY => aa ?_ | refine aa ?_ | refine cG rfl (cQ fun K' hK' => aa ?_) | refine hK' _ _ (ab fun Y hY => aa ?_) | refine fX rfl (ab fun Y hY => aa ?_) | refine cQ fun K' hK' => aa ?_); (try clear hK' K'); (try dsimp only [aop]); try simp only [go_sem,seval,aE,Tryz.results24,hgt,hTl,hcd',ha1,ha2,ha3,nS,rS,nK,rK]) | (with_reducible first | refine ag ?_ | refine aK ?_ | refine am ?_ | refine aG fun K hK => ?_ | refine aA ?_ | refine aH ?_ | refine bK ?_ | refine ef fun K hK => ?_) | ((with_reducible refine bC 6 ?_ ?_); (· rfl)) | ((with_reducible refine aS 6 tk0 aE ?_ (ab fun Y hY => aa ?_)); (· rfl); (try dsimp only [aop]); try simp only [go_sem,seval,aE,Tryz.results24,hgt,hTl,hcd',ha1,ha2,ha3,nS,rS,nK,rK]) | (with_reducible refine hK _ ?_; clear hK K) | (with_reducible refine hK _ _ ?_ ?_; (· kernel_rfl); clear hK K) | ((with_reducible first | refine aJ ?_ ?_ | refine ai ?_ ?_); (· decide)) | ((with_reducible refine gh 6 tk0 aE ?_ ?_ ?_); (· rfl); (· kernel_rfl)) | (with_reducible refine bm ?_ ?_; (· (try and_intros) <;> first | omega | assumption | (simp only [List.length_append,List.length_map,List.length_cons,List.length_nil] <;> omega))) | (with_reducible refine ae (d1) ?_) | (with_reducible refine ae (d3) ?_) | (with_reducible refine ae (dn') ?_) | (with_reducible refine ae (dk) ?_) | (with_reducible refine ae (d6) ?_))
   refine b9 (L := [2,5,6]) (by simp only [go_sem,seval]; exact rfl) ?_
   exact key () (by rw [hP,ha1,ha2,ha3]; rfl)
 case key =>
 intro _ hR
 clear hP d1 d2 d3 d6 dz dn dk h00 hcd' hcd hgt hTl
 repeat' (first | (with_reducible refine hY _ ?_; clear hY Y) | ((with_reducible first | refine au rfl (ay fun K' hK' => aa ?_) | refine hK' _ (ab fun Y hY => aa ?_)); (try clear hK' K'); (try dsimp only [aop]); try simp only [go_sem,seval,aE,Tryz.results24]) | (with_reducible first | refine ag ?_ | refine am ?_ | refine aG fun K hK => ?_) | ((with_reducible refine bC 7 ?_ ?_); (· rfl)) | ((with_reducible refine aS 7 tk0 aE ?_ (ab fun Y hY => aa ?_)); (· rfl); (try dsimp only [aop]); try simp only [go_sem,seval,aE,Tryz.results24]) | (with_reducible refine hK _ ?_; clear hK K))
 refine dj 10008 ⟨by decide,by decide⟩ rfl rfl (by simp only [go_sem,seval]; exact rfl) (by simp only [go_sem,seval]; exact rfl) ?_
 repeat' (first | (with_reducible refine hY _ ?_; clear hY Y) | ((with_reducible first | refine au rfl (ay fun K' hK' => aa ?_) | refine hK' _ (ab fun Y hY => aa ?_)); (try clear hK' K'); (try dsimp only [aop]); try simp only [go_sem,seval,aE,Tryz.results24]) | (with_reducible first | refine ag ?_ | refine am ?_ | refine aG fun K hK => ?_) | ((with_reducible refine bC 8 ?_ ?_); (· rfl)) | ((with_reducible refine aS 8 tk0 aE ?_ (ab fun Y hY => aa ?_)); (· rfl); (try dsimp only [aop]); try simp only [go_sem,seval,aE,Tryz.results24]) | (with_reducible refine hK _ ?_; clear hK K))
 refine dj 10009 ⟨by decide,by decide⟩ rfl rfl (by simp only [go_sem,seval]; exact rfl) (by simp only [go_sem,seval]; exact rfl) ?_
 apply fm (α := Bool) (fun q => [(2,.rf [.sl (ps.flatMap ppA) ps.length .none] 0),(5,.rf XC 0),(9,.rf [.fn (.func 72) [] [.rf XC 0]] 0),(10,.loc 10010 0),(10010,.bc [.c (.bool q)] 4)]) (fun q => q = (m1 || (m2 || m3)))
 case use =>
  intro key
  repeat' (first | (with_reducible refine hY _ ?_; clear hY Y) | ((with_reducible first | refine au rfl (ay fun K' hK' => aa ?_) | refine hK' _ (ab fun Y hY => aa ?_) | refine bf rfl (ab fun Y hY => aa ?_) | refine ab fun Y hY => aa ?_ | refine ay fun K' hK' => aa ?_ | refine aa ?_ | refine cG rfl (cQ fun K' hK' => aa ?_) | refine hK' _ _ (ab fun Y hY => aa ?_)); (try clear hK' K'); (try dsimp only [aop]); try simp only [go_sem,seval,aE,Tryz.results24,hf33,hxl,hf3,hf18,nP,nQ,rP,rQ]) | (with_reducible first | refine ag ?_ | refine aU rfl ?_ | refine aK ?_ | refine cN ?_ ?_ | refine am ?_ | refine aG fun K hK => ?_ | refine bK ?_ | refine ef fun K hK => ?_) | ((with_reducible refine bC 10 ?_ ?_); (· rfl)) | ((with_reducible refine aS 10 tk0 aE ?_ (ab fun Y hY => aa ?_)); (· rfl); (try dsimp only [aop]); try simp only [go_sem,seval,aE,Tryz.results24,hf33,hxl,hf3,hf18,nP,nQ,rP,rQ]) | (with_reducible refine hK _ ?_; clear hK K) | (with_reducible refine hK _ _ ?_ ?_; (· kernel_rfl); clear hK K) | ((with_reducible refine aJ ?_ ?_); (· decide)) | ((with_reducible refine gh 10 tk0 aE ?_ ?_ ?_); (· rfl); (· kernel_rfl)) | ((with_reducible refine bP (fun hc => ?_) (fun hc => ?_)) <;> (try simp only [decide_eq_true_eq,decide_eq_false_iff_not,Bool.not_true,Bool.not_false,Bool.not_eq_true',Bool.not_eq_false'] at hc) <;> (try (exfalso; omega))) | (with_reducible refine ae (d7) ?_) | (with_reducible refine ae (d8) ?_) | (with_reducible refine ae (d9) ?_) | (with_reducible refine ae (d10) ?_))
  all_goals refine b9 (L := [2,5,9,10]) (by simp only [go_sem,seval]; exact rfl) ?_
  all_goals exact key _ (by clear key hR; simp_all)
 case key =>
 rintro q1 hq1
 apply fm (α := Bool) (fun q => [(2,.rf [.sl (ps.flatMap ppA) ps.length .none] 0),(5,.rf XC 0),(9,.rf [.fn (.func 72) [] [.rf XC 0]] 0),(10,.loc 10010 0),(11,.loc 10011 0),(12,.loc 10012 0),(10010,.bc [.c (.bool q1)] 4),(10011,.bc [.c (.bool false)] 4),(10012,.bc [.c (.bool q)] 4)]) (fun q => q = (g1 || g2))
 case use =>
  intro key
  repeat' (first | (with_reducible refine hY _ ?_; clear hY Y) | ((with_reducible first | refine au rfl (ay fun K' hK' => aa ?_) | refine hK' _ (ab fun Y hY => aa ?_) | refine bf rfl (ab fun Y hY => aa ?_) | refine ab fun Y hY => aa ?_ | refine ay fun K' hK' => aa ?_ | refine aa ?_); (try clear hK' K'); (try dsimp only [aop]); try simp only [go_sem,seval,aE,Tryz.results24,hf33,hxl,hf3,hf18,nP,nQ,rP,rQ]) | (with_reducible first | refine ag ?_ | refine aU rfl ?_ | refine aK ?_ | refine cN ?_ ?_ | refine am ?_ | refine aG fun K hK => ?_) | ((with_reducible refine bC 12 ?_ ?_); (· rfl)) | ((with_reducible refine aS 12 tk0 aE ?_ (ab fun Y hY => aa ?_)); (· rfl); (try dsimp only [aop]); try simp only [go_sem,seval,aE,Tryz.results24,hf33,hxl,hf3,hf18,nP,nQ,rP,rQ]) | (with_reducible refine hK _ ?_; clear hK K) | ((with_reducible refine aJ ?_ ?_); (· decide)) | ((with_reducible refine bP (fun hc => ?_) (fun hc => ?_)) <;> (try simp only [decide_eq_true_eq,decide_eq_false_iff_not,Bool.not_true,Bool.not_false,Bool.not_eq_true',Bool.not_eq_false'] at hc) <;> (try (exfalso; omega))) | (with_reducible refine ae (d11) ?_) | (with_reducible refine ae (d12) ?_))
  all_goals refine b9 (L := [2,5,9,10,11,12]) (by simp only [go_sem,seval]; exact rfl) ?_
  all_goals exact key _ (by clear key hR; simp_all)
 case key =>
 rintro q2 hq2
 have dE' := dE q1 q2
 clear dE d7 d8 d9 d10 d11 d12
 have hR' : R = if (q1 || f1) = true then 12 else if f3 = true then 14 else if (q2 || f2) = true then 1 else 0 := by
  rw [hR,hq1,hq2]
  have e1 : (f1 || (m1 || (m2 || m3))) = ((m1 || (m2 || m3)) || f1) := Bool.or_comm _ _
  have e2 : (f2 || (g1 || g2)) = ((g1 || g2) || f2) := Bool.or_comm _ _
  rw [e1,e2]
 clear hR hq1 hq2
 generalize (q1 || f1) = z1 at *
 generalize (q2 || f2) = z2 at *
 cases z1 with
 | true =>
  have hRn : R = 12 := by rw [hR']; simp
  rw [hRn,dq (by decide)]
  repeat' (first | (with_reducible refine hY _ ?_; clear hY Y) | ((with_reducible first | refine au rfl (ay fun K' hK' => aa ?_) | refine hK' _ (ab fun Y hY => aa ?_) | refine ab fun Y hY => aa ?_ | refine ac tk0 aE (ab fun Y hY => aa ?_) | refine aa ?_ | refine ax ?_); (try clear hK' K'); (try dsimp only [aop]); try simp only [go_sem,seval,aE,Tryz.results24,hf33,hxl]) | (with_reducible first | refine ag ?_ | refine am ?_ | refine aq ?_ | refine aG fun K hK => ?_ | refine az ?_ | refine bh ?_ | refine bp ?_ | refine av ?_ | refine aB ?_) | (with_reducible refine hK _ ?_; clear hK K) | ((with_reducible refine ai ?_ ?_); (· decide)) | (with_reducible refine ae (dE') ?_))
  all_goals try rfl
 | false =>
  cases f3 with
  | true =>
   have hRn : R = 14 := by rw [hR']; simp
   rw [hRn,dq (by decide)]
   repeat' (first | (with_reducible refine hY _ ?_; clear hY Y) | ((with_reducible first | refine au rfl (ay fun K' hK' => aa ?_) | refine hK' _ (ab fun Y hY => aa ?_) | refine ab fun Y hY => aa ?_ | refine ac tk0 aE (ab fun Y hY => aa ?_) | refine aa ?_ | refine ax ?_); (try clear hK' K'); (try dsimp only [aop]); try simp only [go_sem,seval,aE,Tryz.results24,hf33,hxl]) | (with_reducible first | refine ag ?_ | refine am ?_ | refine aq ?_ | refine aG fun K hK => ?_ | refine az ?_ | refine aA ?_ | refine bh ?_ | refine bp ?_ | refine av ?_ | refine aB ?_) | (with_reducible refine hK _ ?_; clear hK K) | ((with_reducible refine ai ?_ ?_); (· decide)) | (with_reducible refine ae (dE') ?_))
   all_goals try rfl
  | false =>
   cases z2 with
   | true =>
    have hRn : R = 1 := by rw [hR']; simp
    rw [hRn,dq (by decide)]
    repeat' (first | (with_reducible refine hY _ ?_; clear hY Y) | ((with_reducible first | refine au rfl (ay fun K' hK' => aa ?_) | refine hK' _ (ab fun Y hY => aa ?_) | refine ab fun Y hY => aa ?_ | refine ac tk0 aE (ab fun Y hY => aa ?_) | refine aa ?_ | refine ax ?_); (try clear hK' K'); (try dsimp only [aop]); try simp only [go_sem,seval,aE,Tryz.results24,hf33,hxl]) | (with_reducible first | refine ag ?_ | refine am ?_ | refine aq ?_ | refine aG fun K hK => ?_ | refine az ?_ | refine aA ?_ | refine bh ?_ | refine bp ?_ | refine av ?_ | refine aB ?_) | (with_reducible refine hK _ ?_; clear hK K) | ((with_reducible refine ai ?_ ?_); (· decide)) | (with_reducible refine ae (dE') ?_))
    all_goals try rfl
   | false =>
    have hRn : R = 0 := by rw [hR']; simp
    rw [hRn,mK]
    repeat' (first | (with_reducible refine hY _ ?_; clear hY Y) | ((with_reducible first | refine au rfl (ay fun K' hK' => aa ?_) | refine hK' _ (ab fun Y hY => aa ?_) | refine ab fun Y hY => aa ?_ | refine ac tk0 aE (ab fun Y hY => aa ?_) | refine aa ?_ | refine ax ?_); (try clear hK' K'); (try dsimp only [aop]); try simp only [go_sem,seval,aE,Tryz.results24,hf33,hxl]) | (with_reducible first | refine ag ?_ | refine am ?_ | refine aq ?_ | refine aG fun K hK => ?_ | refine aA ?_ | refine ba ?_ | refine av ?_ | refine aH ?_ | refine aB ?_) | (with_reducible refine hK _ ?_; clear hK K) | ((with_reducible refine ai ?_ ?_); (· decide)) | (with_reducible refine ae (dE') ?_))
    all_goals try rfl
end Go.Proofs.YtkjnkkmokojnpaaGreatDoor

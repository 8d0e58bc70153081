/- lin.Add in K: of a sound form and a constant. -/
import Derived.Test.YtiiaokjgbjhfhaaGreatDoorZ24
namespace Go.Proofs.YtiiaokjgbjhfhaaGreatDoor
set_option linter.unusedSimpArgs false
set_option linter.unusedVariables false
open Go.RowKit
theorem np : ∀ (last : Int) (t : List Tm),cC last t = true → js t
 | _,[],_ => ⟨fun i j hi _ _ => absurd hi (Nat.not_lt_zero _),fun i hi => absurd hi (Nat.not_lt_zero _)⟩
 | last,m :: r,h => by
  have h0 := h
  unfold cC at h
  rw [Bool.and_eq_true] at h
  have ih := np m.1 r h.2
  have hok := eW m.1 r h.2
  have hm := (eW last (m :: r) h0 m (by simp)).1
  refine ⟨fun i j hi hj hij => ?_,fun i hi => ?_⟩
  ·cases j with
   | zero => omega
   | succ j =>
    have hj' : j < r.length := by simpa using hj
    cases i with
    | zero => exact (hok r[j] (List.getElem_mem hj')).2.2
    | succ i =>
     have hi' : i < r.length := by simpa using hi
     exact ih.1 i j hi' hj' (by omega)
  ·cases i with
   | zero => exact ⟨hm.1,hm.2.1⟩
   | succ i =>
    have hi' : i < r.length := by simpa using hi
    exact ih.2 i hi'
theorem j4 (x : Int) {t : List Tm} {k : Nat} (h : k < t.length) : cm x (t.take (k + 1)) = cm x (t.take k) ++ [(t[k].1,x * t[k].2)] := by
 unfold cm
 rw [List.take_succ_eq_append_getElem h,List.map_append];rfl
def di : Nat → List Nat
 | 0 => [0]
 | 1 => [0]
 | _ => []
theorem mc (x : Int) (h1 : -4096 ≤ x) (h2 : x ≤ 4096) : AFn Tryz.prog 35 [inA x] [] (.c (.bool true)) [] := by
 have e1 : ((-4096 : Int) ≤ x) = True := eq_true h1
 have e2 : (x ≤ 4096) = True := eq_true h2
 refine bi [] Tryz.func35 rfl Tryz.ntmps35 (Nat.le_of_ble_eq_true rfl) (Nat.le_of_ble_eq_true rfl) fun w0 G0 B0 Pr hB0 => ?_
 simp only [bu,bf,List.cons_append,List.nil_append]
 repeat' (first | (with_reducible refine hY _ ?_;clear hY Y) | ((with_reducible first | refine aX rfl (aR fun K' hK' => aa ?_) | refine hK' _ (ab fun Y hY => aa ?_) | refine aZ rfl (ab fun Y hY => aa ?_) | refine ab fun Y hY => aa ?_ | refine aR fun K' hK' => aa ?_ | refine ae tk0 di (ab fun Y hY => aa ?_) | refine aa ?_ | refine aA ?_ | refine aT rfl (aq fun K' hK' => aa ?_) | refine hK' _ _ (ab fun Y hY => aa ?_) | refine aS rfl (ab fun Y hY => aa ?_) | refine aq fun K' hK' => aa ?_ | refine aK ?_);(try clear hK' K');(try dsimp only [aop]);try simp only [go_sem,↓reduceIte,Nat.reduceEqDiff,Nat.reduceLT,Nat.reduceLeDiff,Nat.reduceAdd,Nat.reduceSub,Nat.reduceMul,Nat.reduceBEq,Nat.reduceBNe,Nat.reducePow,Int.reduceToNat,Int.reduceLE,Int.reduceLT,Int.reduceMul,Int.reduceEq,Int.reducePow,Int.reduceAdd,Int.reduceSub,Int.reduceNeg,reduceCtorEq,di,Tryz.results35,e1,e2]) | (with_reducible first | refine av ?_ | refine an rfl ?_ | refine ap ?_ | refine ao ?_ | refine bk ?_ ?_ | refine aO ?_ | refine aN ?_ | refine bj fun K hK => ?_ | refine ay ?_ | refine az ?_ | refine aU ?_ | refine aQ ?_ | refine aC ?_ | refine aD ?_ | refine aF ?_ | refine aj ?_ | refine ax ?_ | refine aP ?_ | refine aE ?_ | refine aB ?_ | refine ag ?_ | refine af ?_ | refine al ?_ | refine bl fun K hK => ?_) | (with_reducible refine hK _ ?_;clear hK K) | (with_reducible refine hK _ _ ?_ ?_;(· kernel_rfl);clear hK K) | ((with_reducible first | refine aJ ?_ ?_ | refine ai ?_ ?_ | refine aG ?_ ?_);(· decide)) | (with_reducible refine ak tk0 di ?_ ?_;(· kernel_rfl)) | ((with_reducible first | refine am (fun hc => ?_) (fun hc => ?_) | refine aH (fun hc => ?_) (fun hc => ?_)) <;> (try simp only [decide_eq_true_eq,decide_eq_false_iff_not,Bool.not_true,Bool.not_false,Bool.not_eq_true',Bool.not_eq_false'] at hc) <;> (try (exfalso;omega))) | (with_reducible refine aY ?_ ?_;(· (try and_intros) <;> first | omega | assumption | (simp only [List.length_append,List.length_map,List.length_cons,List.length_nil] <;> omega))) | (with_reducible refine aI ?_) | fail)
def bR : Nat → List Nat
 | 0 => [0,1,2,3]
 | 1 => [2,3,4,5,8]
 | 2 => [8]
 | 3 => [2,3,4,5,8]
 | 4 => [8]
 | 5 => [2,3,4,5,8]
 | 6 => [2,3,4,5,8,10]
 | 7 => [2,3,4,5,8,10,38,39,40]
 | 8 => [2,3,4,5,8,10,38,39,40]
 | 9 => [2,3,4,5,8,10,12,38,39,40]
 | 10 => [2,3,4,5,8,10,38,39,40]
 | 11 => [2,3,4,5,8,10]
 | 12 => [2,3,4,5,8,10,56,57,58]
 | 13 => [2,3,4,5,8,10,56,57,58]
 | 14 => [2,3,4,5,8,10,14,56,57,58]
 | 15 => [2,3,4,5,8,10,56,57,58]
 | 16 => [2,3,4,5,8,10]
 | _ => []
set_option maxRecDepth 100000 in
set_option maxHeartbeats 16000000 in
theorem qN (l : Ln) (d y : Int) (hd : 0 ≤ d ∧ d ≤ 1) (hy : d = y) (hl : dd l = true) (q : Nat × Ln) (hq : q = if cM (d - l.c) then (0,⟨d - l.c,cm (-1) l.t⟩) else (3,⟨0,[]⟩)) :
  AFn Tryz.prog 19 [.agg (lnA l),.agg [inA d,.sl [] 0 .full],inA (-1),inA y] [] (oX q) [] := by
 obtain ⟨⟨c1,c2⟩,h64,hm⟩ := fj hl
 have hts : cC (-1) l.t = true := by unfold dd at hl;simp only [Bool.and_eq_true] at hl;exact hl.2.2
 have hts2 := iO _ _ hts
 have hok2 := eW _ _ hts2
 have hca : AFn Tryz.prog 15 [.agg (lnA l)] [] (.c .nilIface) [] := by
  have := gf l
  rw [show g6 l = cS 0 by unfold g6;rw [hl];rfl] at this
  exact this
 have hd0 : dd ⟨d,[]⟩ = true := by unfold dd;rw [show cM d = true from coefB_iff.2 (by omega)];rfl
 have hcb0 := gf ⟨d,[]⟩
 rw [show g6 ⟨d,[]⟩ = cS 0 by unfold g6;rw [hd0];rfl] at hcb0
 have hcb : AFn Tryz.prog 15 [.agg [inA d,.sl [] 0 .full]] [] (.c .nilIface) [] := dA 2 hcb0 (by simp [wkD,bx])
 have hlen : (cm (-1) l.t).length = l.t.length := List.length_map ..
 have hsum := ra (d - l.c) (cm (-1) l.t) (np _ _ hts2) (fun m hmm => ⟨(hok2 m hmm).2.1,coefB_iff.2 ⟨(hok2 m hmm).1.2.2.1,(hok2 m hmm).1.2.2.2⟩⟩) (by omega) q hq
 rw [hlen] at hsum
 have ht1 := mc (-1) (by decide) (by decide)
 have ht2 := mc y (by omega) (by omega)
 have hwy : IntKind.i64.wrap (y * d) = d := by
  have : y * d = d := by
   rcases (show d = 0 ∨ d = 1 by omega) with h | h
   ·rw [h];simp
   ·rw [← hy,h];rfl
  rw [this];exact bQ (by omega) (by omega)
 have hwc : IntKind.i64.wrap (-1 * l.c) = -l.c := by rw [bQ (by omega) (by omega)];omega
 have hwn : IntKind.i64.wrap (-l.c) = -l.c := bQ (by omega) (by omega)
 have hws : IntKind.i64.wrap (-l.c + d) = d - l.c := by rw [bQ (by omega) (by omega)];omega
 clear hts hts2 hok2 hl hd0 hcb0
 obtain ⟨c,t⟩ := l
 simp only at *
 refine bi [] Tryz.func19 rfl Tryz.ntmps19 (Nat.le_of_ble_eq_true rfl) (Nat.le_of_ble_eq_true rfl) fun w0 G0 B0 Pr hB0 => ?_
 simp only [bu,bf,List.cons_append,List.nil_append]
 repeat' (first | (with_reducible refine hY _ ?_;clear hY Y) | ((with_reducible first | refine aX rfl (aR fun K' hK' => aa ?_) | refine hK' _ (ab fun Y hY => aa ?_) | refine aZ rfl (ab fun Y hY => aa ?_) | refine ab fun Y hY => aa ?_ | refine aR fun K' hK' => aa ?_ | refine ae tk0 bR (ab fun Y hY => aa ?_) | refine aa ?_ | refine aA ?_ | refine aT rfl (aq fun K' hK' => aa ?_) | refine hK' _ _ (ab fun Y hY => aa ?_) | refine aS rfl (ab fun Y hY => aa ?_) | refine aq fun K' hK' => aa ?_ | refine aK ?_);(try clear hK' K');(try dsimp only [aop]);try simp only [go_sem,↓reduceIte,Nat.reduceEqDiff,Nat.reduceLT,Nat.reduceLeDiff,Nat.reduceAdd,Nat.reduceSub,Nat.reduceMul,Nat.reduceBEq,Nat.reduceBNe,Nat.reducePow,Int.reduceToNat,Int.reduceLE,Int.reduceLT,Int.reduceMul,Int.reduceEq,Int.reducePow,Int.reduceAdd,Int.reduceSub,Int.reduceNeg,reduceCtorEq,bR,Tryz.results19]) | (with_reducible first | refine av ?_ | refine an rfl ?_ | refine ap ?_ | refine ao ?_ | refine bk ?_ ?_ | refine aO ?_ | refine aN ?_ | refine bj fun K hK => ?_ | refine ay ?_ | refine az ?_ | refine aU ?_ | refine aQ ?_ | refine aC ?_ | refine aD ?_ | refine aF ?_ | refine aj ?_ | refine ax ?_ | refine aP ?_ | refine aE ?_ | refine aB ?_ | refine ag ?_ | refine af ?_ | refine al ?_ | refine bl fun K hK => ?_) | (with_reducible refine hK _ ?_;clear hK K) | (with_reducible refine hK _ _ ?_ ?_;(· kernel_rfl);clear hK K) | ((with_reducible first | refine aJ ?_ ?_ | refine ai ?_ ?_ | refine aG ?_ ?_);(· decide)) | (with_reducible refine ak tk0 bR ?_ ?_;(· kernel_rfl)) | ((with_reducible first | refine am (fun hc => ?_) (fun hc => ?_) | refine aH (fun hc => ?_) (fun hc => ?_)) <;> (try simp only [decide_eq_true_eq,decide_eq_false_iff_not,Bool.not_true,Bool.not_false,Bool.not_eq_true',Bool.not_eq_false'] at hc) <;> (try (exfalso;omega))) | (with_reducible refine aY ?_ ?_;(· (try and_intros) <;> first | omega | assumption | (simp only [List.length_append,List.length_map,List.length_cons,List.length_nil] <;> omega))) | (with_reducible refine au (hca) ?_) | (with_reducible refine au (hcb) ?_) | (with_reducible refine au (ht1) ?_) | (with_reducible refine au (ht2) ?_) | (with_reducible refine cI (cW) ?_) | (with_reducible refine aI ?_) | fail)
 refine dI (g8 (b := 10053) (t := 10) 57 (by decide) (by decide) rfl rfl) ?_
 refine cq (α := Nat) (fun k => [(2,inA (-1)),(3,inA y),(4,.loc 10004 0),(5,.loc 10005 0),(8,.loc 10008 0),(10,.sl (bx (cm (-1) (t.take k))) k (.tok 10053)),(38,.sl (bx t) t.length .none),(39,inA (t.length : Int)),(40,inA (k : Int)),(10004,.bc [inA c,.sl (bx t) t.length .none] 38),(10005,.bc [inA d,.sl [] 0 .full] 38),(10008,.bc [inA 0,.sl [] 0 .full] 38),(10053,.bt k 57)])
  (fun k => k ≤ t.length) (fun k => t.length - k) 0 [2,3,4,5,8,10,38,39,40] ?_ (Nat.zero_le _) ?_
 ·simp only [go_sem,↓reduceIte,Nat.reduceEqDiff,Nat.reduceLT,Nat.reduceLeDiff,Nat.reduceAdd,Nat.reduceSub,Nat.reduceMul,Nat.reduceBEq,Nat.reduceBNe,Nat.reducePow,Int.reduceToNat,Int.reduceLE,Int.reduceLT,Int.reduceMul,Int.reduceEq,Int.reducePow,Int.reduceAdd,Int.reduceSub,Int.reduceNeg,reduceCtorEq] <;> rfl
 intro k hk ih
 by_cases hlt : k < t.length
 ·have hlt' : ((k : Int) < (t.length : Int)) = True := eq_true (by omega)
  have hkw := cR (n := k) (by omega)
  have hg0 := dV hlt
  have hfl := cu t
  have hcl : (bx (cm (-1) (t.take k))).length = k * 2 := by rw [cu,show (cm (-1) (t.take k)).length = (t.take k).length from List.length_map ..,List.length_take];omega
  have hmem := hm _ (List.getElem_mem hlt)
  have ih' := ih (k + 1) (by omega) (by omega)
  rw [j4 (-1) hlt,ga] at ih'
  clear ih hca hcb ht1 ht2 hsum hwy hwc hws hwn hm
  generalize t[k] = m at *
  obtain ⟨v,x⟩ := m
  obtain ⟨b1,b2,b3,b4⟩ := hmem
  simp only at b3 b4 hg0 ih'
  have hw : IntKind.i64.wrap (-1 * x) = -1 * x := bQ (by omega) (by omega)
  have hw2 : IntKind.i64.wrap (-x) = -1 * x := by rw [bQ (by omega) (by omega)];omega
  generalize -1 * x = z at *
  generalize cm (-1) (t.take k) = T at *
  repeat' (first | (with_reducible refine hY _ ?_;clear hY Y) | ((with_reducible first | refine aX rfl (aR fun K' hK' => aa ?_) | refine hK' _ (ab fun Y hY => aa ?_) | refine aZ rfl (ab fun Y hY => aa ?_) | refine ab fun Y hY => aa ?_ | refine aR fun K' hK' => aa ?_ | refine ae tk0 bR (ab fun Y hY => aa ?_) | refine aa ?_ | refine aA ?_ | refine aT rfl (aq fun K' hK' => aa ?_) | refine hK' _ _ (ab fun Y hY => aa ?_) | refine aS rfl (ab fun Y hY => aa ?_) | refine aq fun K' hK' => aa ?_ | refine aK ?_);(try clear hK' K');(try dsimp only [aop]);try simp only [go_sem,↓reduceIte,Nat.reduceEqDiff,Nat.reduceLT,Nat.reduceLeDiff,Nat.reduceAdd,Nat.reduceSub,Nat.reduceMul,Nat.reduceBEq,Nat.reduceBNe,Nat.reducePow,Int.reduceToNat,Int.reduceLE,Int.reduceLT,Int.reduceMul,Int.reduceEq,Int.reducePow,Int.reduceAdd,Int.reduceSub,Int.reduceNeg,reduceCtorEq,bR,Tryz.results19,hlt',hfl,hg0,hkw,hw,hw2,hcl]) | (with_reducible first | refine av ?_ | refine an rfl ?_ | refine ap ?_ | refine ao ?_ | refine bk ?_ ?_ | refine aO ?_ | refine aN ?_ | refine bj fun K hK => ?_ | refine ay ?_ | refine az ?_ | refine aU ?_ | refine aQ ?_ | refine aC ?_ | refine aD ?_ | refine aF ?_ | refine aj ?_ | refine ax ?_ | refine aP ?_ | refine aE ?_ | refine aB ?_ | refine ag ?_ | refine af ?_ | refine al ?_ | refine bl fun K hK => ?_) | (with_reducible refine hK _ ?_;clear hK K) | (with_reducible refine hK _ _ ?_ ?_;(· kernel_rfl);clear hK K) | ((with_reducible first | refine aJ ?_ ?_ | refine ai ?_ ?_ | refine aG ?_ ?_);(· decide)) | (with_reducible refine ak tk0 bR ?_ ?_;(· kernel_rfl)) | ((with_reducible first | refine am (fun hc => ?_) (fun hc => ?_) | refine aH (fun hc => ?_) (fun hc => ?_)) <;> (try simp only [decide_eq_true_eq,decide_eq_false_iff_not,Bool.not_true,Bool.not_false,Bool.not_eq_true',Bool.not_eq_false'] at hc) <;> (try (exfalso;omega))) | (with_reducible refine aY ?_ ?_;(· (try and_intros) <;> first | omega | assumption | (simp only [List.length_append,List.length_map,List.length_cons,List.length_nil] <;> omega))) | (with_reducible refine aI ?_) | fail)
  refine bJ [2,3,4,5,8,10,38,39,40] (by simp only [go_sem,↓reduceIte,Nat.reduceEqDiff,Nat.reduceLT,Nat.reduceLeDiff,Nat.reduceAdd,Nat.reduceSub,Nat.reduceMul,Nat.reduceBEq,Nat.reduceBNe,Nat.reducePow,Int.reduceToNat,Int.reduceLE,Int.reduceLT,Int.reduceMul,Int.reduceEq,Int.reducePow,Int.reduceAdd,Int.reduceSub,Int.reduceNeg,reduceCtorEq];exact rfl) ?_
  refine jw ih' ?_
  simp [bx,hw2]
 ·have hlt' : ((k : Int) < (t.length : Int)) = False := eq_false (by omega)
  obtain rfl : k = t.length := by omega
  rw [List.take_of_length_le (by omega)]
  clear ih hca hcb ht1 ht2
  repeat' (first | (with_reducible refine hY _ ?_;clear hY Y) | ((with_reducible first | refine aX rfl (aR fun K' hK' => aa ?_) | refine hK' _ (ab fun Y hY => aa ?_) | refine aZ rfl (ab fun Y hY => aa ?_) | refine ab fun Y hY => aa ?_ | refine aR fun K' hK' => aa ?_ | refine ae tk0 bR (ab fun Y hY => aa ?_) | refine aa ?_ | refine aA ?_ | refine aT rfl (aq fun K' hK' => aa ?_) | refine hK' _ _ (ab fun Y hY => aa ?_) | refine aS rfl (ab fun Y hY => aa ?_) | refine aq fun K' hK' => aa ?_ | refine aK ?_);(try clear hK' K');(try dsimp only [aop]);try simp only [go_sem,↓reduceIte,Nat.reduceEqDiff,Nat.reduceLT,Nat.reduceLeDiff,Nat.reduceAdd,Nat.reduceSub,Nat.reduceMul,Nat.reduceBEq,Nat.reduceBNe,Nat.reducePow,Int.reduceToNat,Int.reduceLE,Int.reduceLT,Int.reduceMul,Int.reduceEq,Int.reducePow,Int.reduceAdd,Int.reduceSub,Int.reduceNeg,reduceCtorEq,bR,Tryz.results19,hlt']) | (with_reducible first | refine av ?_ | refine an rfl ?_ | refine ap ?_ | refine ao ?_ | refine bk ?_ ?_ | refine aO ?_ | refine aN ?_ | refine bj fun K hK => ?_ | refine ay ?_ | refine az ?_ | refine aU ?_ | refine aQ ?_ | refine aC ?_ | refine aD ?_ | refine aF ?_ | refine aj ?_ | refine ax ?_ | refine aP ?_ | refine aE ?_ | refine aB ?_ | refine ag ?_ | refine af ?_ | refine al ?_ | refine bl fun K hK => ?_) | (with_reducible refine hK _ ?_;clear hK K) | (with_reducible refine hK _ _ ?_ ?_;(· kernel_rfl);clear hK K) | ((with_reducible first | refine aJ ?_ ?_ | refine ai ?_ ?_ | refine aG ?_ ?_);(· decide)) | (with_reducible refine ak tk0 bR ?_ ?_;(· kernel_rfl)) | ((with_reducible first | refine am (fun hc => ?_) (fun hc => ?_) | refine aH (fun hc => ?_) (fun hc => ?_)) <;> (try simp only [decide_eq_true_eq,decide_eq_false_iff_not,Bool.not_true,Bool.not_false,Bool.not_eq_true',Bool.not_eq_false'] at hc) <;> (try (exfalso;omega))) | (with_reducible refine aY ?_ ?_;(· (try and_intros) <;> first | omega | assumption | (simp only [List.length_append,List.length_map,List.length_cons,List.length_nil] <;> omega))) | (with_reducible refine aI ?_) | fail)
  refine bV ?_
  cases hcc : cM (d - c) with
  | true =>
   obtain rfl : q = (0,⟨d - c,cm (-1) t⟩) := by rw [hq,hcc];rfl
   rw [lh] at hsum ⊢
   try simp only [hlen] at hsum
   try simp only [hlen]
   repeat' (first | (with_reducible refine hY _ ?_;clear hY Y) | ((with_reducible first | refine aX rfl (aR fun K' hK' => aa ?_) | refine hK' _ (ab fun Y hY => aa ?_) | refine aZ rfl (ab fun Y hY => aa ?_) | refine ab fun Y hY => aa ?_ | refine aR fun K' hK' => aa ?_ | refine ae tk0 bR (ab fun Y hY => aa ?_) | refine aa ?_ | refine aA ?_ | refine aT rfl (aq fun K' hK' => aa ?_) | refine hK' _ _ (ab fun Y hY => aa ?_) | refine aS rfl (ab fun Y hY => aa ?_) | refine aq fun K' hK' => aa ?_ | refine aK ?_);(try clear hK' K');(try dsimp only [aop]);try simp only [go_sem,↓reduceIte,Nat.reduceEqDiff,Nat.reduceLT,Nat.reduceLeDiff,Nat.reduceAdd,Nat.reduceSub,Nat.reduceMul,Nat.reduceBEq,Nat.reduceBNe,Nat.reducePow,Int.reduceToNat,Int.reduceLE,Int.reduceLT,Int.reduceMul,Int.reduceEq,Int.reducePow,Int.reduceAdd,Int.reduceSub,Int.reduceNeg,reduceCtorEq,bR,Tryz.results19,hwy,hwc,hwn,hws]) | (with_reducible first | refine av ?_ | refine an rfl ?_ | refine ap ?_ | refine ao ?_ | refine bk ?_ ?_ | refine aO ?_ | refine aN ?_ | refine bj fun K hK => ?_ | refine ay ?_ | refine az ?_ | refine aU ?_ | refine aQ ?_ | refine aC ?_ | refine aD ?_ | refine aF ?_ | refine aj ?_ | refine ax ?_ | refine aP ?_ | refine aE ?_ | refine aB ?_ | refine ag ?_ | refine af ?_ | refine al ?_ | refine bl fun K hK => ?_) | (with_reducible refine hK _ ?_;clear hK K) | (with_reducible refine hK _ _ ?_ ?_;(· kernel_rfl);clear hK K) | ((with_reducible first | refine aJ ?_ ?_ | refine ai ?_ ?_ | refine aG ?_ ?_);(· decide)) | (with_reducible refine ak tk0 bR ?_ ?_;(· kernel_rfl)) | ((with_reducible first | refine am (fun hc => ?_) (fun hc => ?_) | refine aH (fun hc => ?_) (fun hc => ?_)) <;> (try simp only [decide_eq_true_eq,decide_eq_false_iff_not,Bool.not_true,Bool.not_false,Bool.not_eq_true',Bool.not_eq_false'] at hc) <;> (try (exfalso;omega))) | (with_reducible refine aY ?_ ?_;(· (try and_intros) <;> first | omega | assumption | (simp only [List.length_append,List.length_map,List.length_cons,List.length_nil] <;> omega))) | (with_reducible refine au (eI hsum ?_) ?_;(· simp [cH])) | (with_reducible refine aI ?_) | fail)
  | false =>
   obtain rfl : q = (3,⟨0,[]⟩) := by rw [hq,hcc];rfl
   rw [li] at hsum ⊢
   repeat' (first | (with_reducible refine hY _ ?_;clear hY Y) | ((with_reducible first | refine aX rfl (aR fun K' hK' => aa ?_) | refine hK' _ (ab fun Y hY => aa ?_) | refine aZ rfl (ab fun Y hY => aa ?_) | refine ab fun Y hY => aa ?_ | refine aR fun K' hK' => aa ?_ | refine ae tk0 bR (ab fun Y hY => aa ?_) | refine aa ?_ | refine aA ?_ | refine aT rfl (aq fun K' hK' => aa ?_) | refine hK' _ _ (ab fun Y hY => aa ?_) | refine aS rfl (ab fun Y hY => aa ?_) | refine aq fun K' hK' => aa ?_ | refine aK ?_);(try clear hK' K');(try dsimp only [aop]);try simp only [go_sem,↓reduceIte,Nat.reduceEqDiff,Nat.reduceLT,Nat.reduceLeDiff,Nat.reduceAdd,Nat.reduceSub,Nat.reduceMul,Nat.reduceBEq,Nat.reduceBNe,Nat.reducePow,Int.reduceToNat,Int.reduceLE,Int.reduceLT,Int.reduceMul,Int.reduceEq,Int.reducePow,Int.reduceAdd,Int.reduceSub,Int.reduceNeg,reduceCtorEq,bR,Tryz.results19,hwy,hwc,hwn,hws]) | (with_reducible first | refine av ?_ | refine an rfl ?_ | refine ap ?_ | refine ao ?_ | refine bk ?_ ?_ | refine aO ?_ | refine aN ?_ | refine bj fun K hK => ?_ | refine ay ?_ | refine az ?_ | refine aU ?_ | refine aQ ?_ | refine aC ?_ | refine aD ?_ | refine aF ?_ | refine aj ?_ | refine ax ?_ | refine aP ?_ | refine aE ?_ | refine aB ?_ | refine ag ?_ | refine af ?_ | refine al ?_ | refine bl fun K hK => ?_) | (with_reducible refine hK _ ?_;clear hK K) | (with_reducible refine hK _ _ ?_ ?_;(· kernel_rfl);clear hK K) | ((with_reducible first | refine aJ ?_ ?_ | refine ai ?_ ?_ | refine aG ?_ ?_);(· decide)) | (with_reducible refine ak tk0 bR ?_ ?_;(· kernel_rfl)) | ((with_reducible first | refine am (fun hc => ?_) (fun hc => ?_) | refine aH (fun hc => ?_) (fun hc => ?_)) <;> (try simp only [decide_eq_true_eq,decide_eq_false_iff_not,Bool.not_true,Bool.not_false,Bool.not_eq_true',Bool.not_eq_false'] at hc) <;> (try (exfalso;omega))) | (with_reducible refine aY ?_ ?_;(· (try and_intros) <;> first | omega | assumption | (simp only [List.length_append,List.length_map,List.length_cons,List.length_nil] <;> omega))) | (with_reducible refine au (eI hsum ?_) ?_;(· simp [cH])) | (with_reducible refine aI ?_) | fail)
end Go.Proofs.YtiiaokjgbjhfhaaGreatDoor

/- Cut in K: all lines. K: rows handed back with their token, or without; rows handed in whose room is none. No program is in sight. Cut in K: a step, the document's way. Cut in K: all lines, the document's way. Cut in K: refuted, or open. A certificate checked, plain: what is normalized is sound; the premises of a lemma are few. -/
import Derived.Test.YtmpdocplcgbpkaaGreatDoorZ24
import Derived.Test.YtmpdocplcgbpkaaGreatDoorZ8
import Derived.Test.YtmpdocplcgbpkaaGreatDoorZ7
import Derived.Test.YtmpdocplcgbpkaaGreatDoorZ15
import Derived.Test.YtmpdocplcgbpkaaGreatDoorZ10
import Derived.Test.YtmpdocplcgbpkaaGreatDoorZ23
import Derived.Test.YtmpdocplcgbpkaaGreatDoorZ22
namespace Go.Proofs.YtmpdocplcgbpkaaGreatDoor
set_option linter.unusedSimpArgs false
set_option linter.unusedVariables false
open Go.RowKit
theorem kW : ∀ {ps : List Ln} {k i : Nat} (h : k < ps.length),(∀ j (hj : j < ps.length),j < k → dg ps[j] = true) → dg ps[k] = false → fg ps i = some (i + k)
 | p :: r,0,i,h,_,hb => by
  unfold fg
  have : dg p = false := hb
  rw [this];rfl
 | p :: r,k + 1,i,h,ha,hb => by
  unfold fg
  rw [show dg p = true from ha 0 (by simp) (by omega),if_pos rfl,kW (ps := r) (k := k) (i := i + 1) (by simpa using h) (fun j hj hjk => ha (j + 1) (by simpa using hj) (by omega)) hb]
  congr 1;omega
theorem j2 : ∀ {ps : List Ln} {i : Nat},(∀ l ∈ ps,dg l = true) → fg ps i = none
 | [],i,_ => rfl
 | p :: r,i,h => by
  unfold fg
  rw [h p (by simp),if_pos rfl]
  exact j2 fun l hl => h l (by simp [hl])
def qR (q : Nat × Int × List Ln) : AV := .tup [gm q.2.2,er q.1 q.2.1]
theorem rZ (a b : List Ln) : (a ++ b).flatMap lnA = a.flatMap lnA ++ b.flatMap lnA := List.flatMap_append
theorem vi {ls : List Ln} {s : Stp} {r : List Stp} {i : Nat} {l : Ln} (h : fR ls s = (0,l)) : dZ (s :: r) i ls = dZ r (i + 1) (ls ++ [l]) := by
 rw [dZ,h];rfl
theorem vj {ls : List Ln} {s : Stp} {r : List Stp} {i e : Nat} {l : Ln} (h : fR ls s = (e,l)) (he : e ≠ 0) : dZ (s :: r) i ls = (e,(i : Int),[]) := by
 rw [dZ,h];exact if_neg he
theorem ub (e i : Nat) (he : e ≠ 0) : er e (i : Int) = .ifc 61 (.rf [inA (i : Int),cK e] 0) := by
 unfold er;rw [if_neg (by omega)];rfl
theorem rJ (z : Int) : er 0 z = .c .nilIface := by unfold er;rw [if_pos (.inr rfl)];rfl
theorem pX {ss : List Stp} {k : Nat} (h : k < ss.length) (i : Nat) (ls : List Ln) : dZ (ss.drop k) i ls = dZ (ss[k] :: ss.drop (k + 1)) i ls := by rw [List.drop_eq_getElem_cons h]
def jk (q : Nat × Int × List Ln) : AV := .tup [.sl (q.2.2.flatMap lnA) q.2.2.length (if q.1 = 0 then .none else .full),er q.1 q.2.1]
theorem jl {e : Nat} (he : e ≠ 0) (z : Int) : jk (e,z,[]) = .tup [.sl [] 0 .full,er e z] := by unfold jk;rw [if_neg he];rfl
theorem sY (z : Int) (ls : List Ln) : jk (0,z,ls) = .tup [gm ls,.c .nilIface] := by unfold jk;rw [rJ];rfl
structure vA (ps : List Ln) : Prop where
 len : Lg ps
 each : ∀ l ∈ ps,l.t.length ≤ 8796093022207
structure oM (ss : List Stp) : Prop where
 len : Lg ss
 each : ∀ s ∈ ss,Lg s.parts
def bJ : Nat → List Nat
 | 0 => [0,1]
 | 1 => [0,1]
 | 2 => []
 | 3 => [0,1]
 | 4 => [0,1,6]
 | 5 => [1,6,23,24,25]
 | 6 => [1,6,23,24,25]
 | 7 => [1,6,7,8,23,24,25]
 | 8 => [1,6,7,8,9,23,24,25]
 | 9 => [7,9]
 | 10 => [1,6,8,23,24,25]
 | 11 => [1,6,23,24,25]
 | 12 => [1,6]
 | 13 => [6,49,50,51]
 | 14 => [6,49,50,51]
 | 15 => [6,10,11,49,50,51]
 | 16 => [6,10,12,13,49,50,51]
 | 17 => [10,13]
 | 18 => [6,12,49,50,51]
 | 19 => [6,49,50,51]
 | 20 => [6]
 | _ => []
set_option maxRecDepth 100000 in
set_option maxHeartbeats 16000000 in
theorem uE (ps : List Ln) (ss : List Stp) (hps : vA ps) (hss : oM ss) : AFn Tryz.prog 81 [gm ps,jD ss] [] (jk (dT ps ss)) [] := by
 have hpl := hps.len
 have hsl := hss.len
 unfold Lg at hpl hsl
 by_cases h1 : 4096 < ps.length
 ·rw [show dT ps ss = (2,-1,[]) from if_pos (.inl h1),jl (by decide),show er 2 (-1) = cK 2 from rfl,gG]
  have h1' : ((4096 : Int) < (ps.length : Int)) = True := eq_true (by omega)
  refine bm [] Tryz.func81 rfl Tryz.ntmps81 (Nat.le_of_ble_eq_true rfl) (Nat.le_of_ble_eq_true rfl) fun w0 G0 B0 Pr hB0 => ?_
  simp only [bD,bj,List.cons_append,List.nil_append]
  repeat' (first | (with_reducible refine hY _ ?_;clear hY Y) | ((with_reducible first | refine aX rfl (aR fun K' hK' => aa ?_) | refine hK' _ (ab fun Y hY => aa ?_) | refine aW rfl (ab fun Y hY => aa ?_) | refine ab fun Y hY => aa ?_ | refine ag tk0 bJ (ab fun Y hY => aa ?_) | refine aa ?_ | refine aH ?_);(try clear hK' K');(try dsimp only [aop]);try simp only [go_sem,↓reduceIte,Nat.reduceEqDiff,Nat.reduceLT,Nat.reduceLeDiff,Nat.reduceAdd,Nat.reduceSub,Nat.reduceMul,Nat.reduceBEq,Nat.reduceBNe,Nat.reducePow,Int.reduceToNat,Int.reduceLE,Int.reduceLT,Int.reduceMul,Int.reduceEq,Int.reducePow,Int.reduceAdd,Int.reduceSub,Int.reduceNeg,reduceCtorEq,bJ,Tryz.results81,h1']) | (with_reducible first | refine aI ?_ | refine am rfl ?_ | refine bg ?_ ?_ | refine aP ?_ | refine aS ?_ | refine bi fun K hK => ?_ | refine aD ?_ | refine aQ ?_ | refine aL ?_) | (with_reducible refine hK _ ?_;clear hK K) | ((with_reducible first | refine aF ?_ ?_ | refine ai ?_ ?_);(· decide)))
 have h1' : ((4096 : Int) < (ps.length : Int)) = False := eq_false (by omega)
 by_cases h2 : 4096 < ss.length
 ·rw [show dT ps ss = (2,-1,[]) from if_pos (.inr h2),jl (by decide),show er 2 (-1) = cK 2 from rfl,gG]
  have h2' : ((4096 : Int) < (ss.length : Int)) = True := eq_true (by omega)
  refine bm [] Tryz.func81 rfl Tryz.ntmps81 (Nat.le_of_ble_eq_true rfl) (Nat.le_of_ble_eq_true rfl) fun w0 G0 B0 Pr hB0 => ?_
  simp only [bD,bj,List.cons_append,List.nil_append]
  repeat' (first | (with_reducible refine hY _ ?_;clear hY Y) | ((with_reducible first | refine aX rfl (aR fun K' hK' => aa ?_) | refine hK' _ (ab fun Y hY => aa ?_) | refine aW rfl (ab fun Y hY => aa ?_) | refine ab fun Y hY => aa ?_ | refine aR fun K' hK' => aa ?_ | refine ag tk0 bJ (ab fun Y hY => aa ?_) | refine aa ?_ | refine aH ?_);(try clear hK' K');(try dsimp only [aop]);try simp only [go_sem,↓reduceIte,Nat.reduceEqDiff,Nat.reduceLT,Nat.reduceLeDiff,Nat.reduceAdd,Nat.reduceSub,Nat.reduceMul,Nat.reduceBEq,Nat.reduceBNe,Nat.reducePow,Int.reduceToNat,Int.reduceLE,Int.reduceLT,Int.reduceMul,Int.reduceEq,Int.reducePow,Int.reduceAdd,Int.reduceSub,Int.reduceNeg,reduceCtorEq,bJ,Tryz.results81,h1',h2']) | (with_reducible first | refine aI ?_ | refine ao ?_ | refine aP ?_ | refine aS ?_ | refine bi fun K hK => ?_ | refine aD ?_ | refine aQ ?_ | refine aL ?_) | (with_reducible refine hK _ ?_;clear hK K) | ((with_reducible first | refine aF ?_ ?_ | refine ai ?_ ?_);(· decide)))
 have h2' : ((4096 : Int) < (ss.length : Int)) = False := eq_false (by omega)
 have hL5 : ∀ i,fg ps 0 = some i → dT ps ss = (5,(i : Int),[]) := fun i h => by unfold dT;rw [if_neg (by omega),h]
 have hL0 : fg ps 0 = none → dT ps ss = dZ ss 0 ps := fun h => by unfold dT;rw [if_neg (by omega),h]
 refine bm [] Tryz.func81 rfl Tryz.ntmps81 (Nat.le_of_ble_eq_true rfl) (Nat.le_of_ble_eq_true rfl) fun w0 G0 B0 Pr hB0 => ?_
 simp only [bD,bj,List.cons_append,List.nil_append]
 repeat' (first | (with_reducible refine hY _ ?_;clear hY Y) | ((with_reducible first | refine aX rfl (aR fun K' hK' => aa ?_) | refine hK' _ (ab fun Y hY => aa ?_) | refine aW rfl (ab fun Y hY => aa ?_) | refine ab fun Y hY => aa ?_ | refine aR fun K' hK' => aa ?_ | refine ag tk0 bJ (ab fun Y hY => aa ?_));(try clear hK' K');(try dsimp only [aop]);try simp only [go_sem,↓reduceIte,Nat.reduceEqDiff,Nat.reduceLT,Nat.reduceLeDiff,Nat.reduceAdd,Nat.reduceSub,Nat.reduceMul,Nat.reduceBEq,Nat.reduceBNe,Nat.reducePow,Int.reduceToNat,Int.reduceLE,Int.reduceLT,Int.reduceMul,Int.reduceEq,Int.reducePow,Int.reduceAdd,Int.reduceSub,Int.reduceNeg,reduceCtorEq,bJ,Tryz.results81,h1',h2']) | (with_reducible first | refine aI ?_ | refine ao ?_ | refine aP ?_ | refine aS ?_ | refine bi fun K hK => ?_ | refine aC ?_ | refine ah ?_ | refine av ?_ | refine au ?_) | (with_reducible refine hK _ ?_;clear hK K) | ((with_reducible first | refine aF ?_ ?_ | refine ai ?_ ?_);(· decide)))
 refine d5 (gv (b := 10047) (t := 6) 24 (by decide) (by decide) rfl rfl) ?_
 refine b7 (α := Nat) (fun k => [(1,jD ss),(6,.sl ((ps.take k).flatMap lnA) k (.tok 10047)),(23,gm ps),(24,inA (ps.length : Int)),(25,inA (k : Int)),(10047,.bt k 24)])
  (fun k => k ≤ ps.length ∧ ∀ j (hj : j < ps.length),j < k → dg ps[j] = true) (fun k => ps.length - k) 0 [1,6,23,24,25] ?_ ⟨Nat.zero_le _,fun j _ hj => absurd hj (Nat.not_lt_zero _)⟩ ?_
 ·simp only [go_sem,↓reduceIte,Nat.reduceEqDiff,Nat.reduceLT,Nat.reduceLeDiff,Nat.reduceAdd,Nat.reduceSub,Nat.reduceMul,Nat.reduceBEq,Nat.reduceBNe,Nat.reducePow,Int.reduceToNat,Int.reduceLE,Int.reduceLT,Int.reduceMul,Int.reduceEq,Int.reducePow,Int.reduceAdd,Int.reduceSub,Int.reduceNeg,reduceCtorEq] <;> rfl
 rintro k ⟨hk,hall⟩ ih
 by_cases hlt : k < ps.length
 ·have hlt' : ((k : Int) < (ps.length : Int)) = True := eq_true (by omega)
  have hkw := cC (n := k) (by omega)
  have hg0 := i4 hlt
  have hfl := eo ps
  have hck := ew ps[k]
  have hcl := jX ps[k].t .none (.inl rfl) (hps.each _ (List.getElem_mem hlt))
  have hcs : ((ps.take k).flatMap lnA).length = k * 2 := by rw [eo,List.length_take];omega
  cases hb : dg ps[k] with
  | false =>
   rw [hL5 k (by have := kW (i := 0) hlt hall hb;rwa [Nat.zero_add] at this),jl (by decide),ub 5 k (by decide),dF]
   unfold iw at hck
   rw [hb,if_neg (by decide),dF] at hck
   clear ih hall hL5 hL0
   generalize ps[k] = l at *
   generalize (ps.take k).flatMap lnA = PC at *
   repeat' (first | (with_reducible refine hY _ ?_;clear hY Y) | ((with_reducible first | refine aX rfl (aR fun K' hK' => aa ?_) | refine hK' _ (ab fun Y hY => aa ?_) | refine ab fun Y hY => aa ?_ | refine ag tk0 bJ (ab fun Y hY => aa ?_) | refine aa ?_ | refine aH ?_);(try clear hK' K');(try dsimp only [aop]);try simp only [go_sem,↓reduceIte,Nat.reduceEqDiff,Nat.reduceLT,Nat.reduceLeDiff,Nat.reduceAdd,Nat.reduceSub,Nat.reduceMul,Nat.reduceBEq,Nat.reduceBNe,Nat.reducePow,Int.reduceToNat,Int.reduceLE,Int.reduceLT,Int.reduceMul,Int.reduceEq,Int.reducePow,Int.reduceAdd,Int.reduceSub,Int.reduceNeg,reduceCtorEq,bJ,Tryz.results81,hlt',hfl,hg0,hkw,hcs]) | (with_reducible first | refine aI ?_ | refine aP ?_ | refine aS ?_ | refine bi fun K hK => ?_ | refine aD ?_ | refine aQ ?_ | refine aA ?_ | refine ah ?_ | refine av ?_ | refine aL ?_) | (with_reducible refine hK _ ?_;clear hK K) | ((with_reducible refine ai ?_ ?_);(· decide)) | (with_reducible refine aV ?_ ?_;(· (try and_intros) <;> first | omega | assumption | (simp only [List.length_append,List.length_map,List.length_cons,List.length_nil] <;> omega))) | (with_reducible refine aK (hck) ?_))
  | true =>
   have ih' := ih (k + 1) ⟨by omega,fun j hj hjk => by
    by_cases e : j < k
    ·exact hall j hj e
    ·obtain rfl : j = k := by omega
     exact hb⟩ (by omega)
   rw [List.take_succ_eq_append_getElem hlt,rZ] at ih'
   unfold iw at hck
   rw [hb,if_pos rfl,dh] at hck
   clear ih hall hL5 hL0
   generalize ps[k] = l at *
   generalize (ps.take k).flatMap lnA = PC at *
   repeat' (first | (with_reducible refine hY _ ?_;clear hY Y) | ((with_reducible first | refine aX rfl (aR fun K' hK' => aa ?_) | refine hK' _ (ab fun Y hY => aa ?_) | refine ab fun Y hY => aa ?_ | refine ag tk0 bJ (ab fun Y hY => aa ?_) | refine aa ?_ | refine aN rfl (ap fun K' hK' => aa ?_) | refine hK' _ _ (ab fun Y hY => aa ?_));(try clear hK' K');(try dsimp only [aop]);try simp only [go_sem,↓reduceIte,Nat.reduceEqDiff,Nat.reduceLT,Nat.reduceLeDiff,Nat.reduceAdd,Nat.reduceSub,Nat.reduceMul,Nat.reduceBEq,Nat.reduceBNe,Nat.reducePow,Int.reduceToNat,Int.reduceLE,Int.reduceLT,Int.reduceMul,Int.reduceEq,Int.reducePow,Int.reduceAdd,Int.reduceSub,Int.reduceNeg,reduceCtorEq,bJ,Tryz.results81,hlt',hfl,hg0,hkw,hcs]) | (with_reducible first | refine aI ?_ | refine aP ?_ | refine aS ?_ | refine bi fun K hK => ?_ | refine aD ?_ | refine aC ?_ | refine ay ?_ | refine ah ?_ | refine av ?_ | refine aj ?_ | refine bh fun K hK => ?_) | (with_reducible refine hK _ ?_;clear hK K) | (with_reducible refine hK _ _ ?_ ?_;(· kernel_rfl);clear hK K) | ((with_reducible refine ai ?_ ?_);(· decide)) | (with_reducible refine aq tk0 bJ ?_ ?_;(· kernel_rfl)) | (with_reducible refine aV ?_ ?_;(· (try and_intros) <;> first | omega | assumption | (simp only [List.length_append,List.length_map,List.length_cons,List.length_nil] <;> omega))) | (with_reducible refine aK (hck) ?_) | (with_reducible refine aK (hcl) ?_) | (with_reducible refine ce (cu) ?_))
   refine bO [1,6,23,24,25] (by simp only [go_sem,↓reduceIte,Nat.reduceEqDiff,Nat.reduceLT,Nat.reduceLeDiff,Nat.reduceAdd,Nat.reduceSub,Nat.reduceMul,Nat.reduceBEq,Nat.reduceBNe,Nat.reducePow,Int.reduceToNat,Int.reduceLE,Int.reduceLT,Int.reduceMul,Int.reduceEq,Int.reducePow,Int.reduceAdd,Int.reduceSub,Int.reduceNeg,reduceCtorEq];exact rfl) ?_
   refine gF ih' ?_
   simp
 have hlt' : ((k : Int) < (ps.length : Int)) = False := eq_false (by omega)
 obtain rfl : k = ps.length := by omega
 have hlin : ∀ l ∈ ps,dg l = true := fun l hl => by
  obtain ⟨j,hj,rfl⟩ := List.getElem_of_mem hl
  exact hall j hj hj
 rw [hL0 (j2 hlin),List.take_of_length_le (Nat.le_refl _)]
 clear ih hall hL5 hL0
 repeat' (first | (with_reducible refine hY _ ?_;clear hY Y) | ((with_reducible first | refine aX rfl (aR fun K' hK' => aa ?_) | refine hK' _ (ab fun Y hY => aa ?_) | refine ab fun Y hY => aa ?_ | refine ag tk0 bJ (ab fun Y hY => aa ?_));(try clear hK' K');(try dsimp only [aop]);try simp only [go_sem,↓reduceIte,Nat.reduceEqDiff,Nat.reduceLT,Nat.reduceLeDiff,Nat.reduceAdd,Nat.reduceSub,Nat.reduceMul,Nat.reduceBEq,Nat.reduceBNe,Nat.reducePow,Int.reduceToNat,Int.reduceLE,Int.reduceLT,Int.reduceMul,Int.reduceEq,Int.reducePow,Int.reduceAdd,Int.reduceSub,Int.reduceNeg,reduceCtorEq,bJ,Tryz.results81,hlt']) | (with_reducible first | refine aI ?_ | refine aP ?_ | refine aS ?_ | refine bi fun K hK => ?_ | refine aC ?_ | refine aO ?_ | refine ax ?_ | refine ah ?_ | refine ar ?_ | refine au ?_) | (with_reducible refine hK _ ?_;clear hK K) | ((with_reducible refine ai ?_ ?_);(· decide)))
 generalize hR : dZ ss 0 ps = R at *
 refine b7 (α := Nat × List Ln) (fun a => [(6,.sl (a.2.flatMap lnA) a.2.length (.tok 10047)),(49,jD ss),(50,inA (ss.length : Int)),(51,inA (a.1 : Int)),(10047,.bt a.2.length 24)])
  (fun a => a.1 ≤ ss.length ∧ R = dZ (ss.drop a.1) a.1 a.2 ∧ (∀ l ∈ a.2,dg l = true) ∧ a.2.length ≤ 4096 + a.1) (fun a => ss.length - a.1) (0,ps) [6,49,50,51] ?_ ⟨Nat.zero_le _,hR.symm,hlin,by simp only;omega⟩ ?_
 ·simp only [go_sem,↓reduceIte,Nat.reduceEqDiff,Nat.reduceLT,Nat.reduceLeDiff,Nat.reduceAdd,Nat.reduceSub,Nat.reduceMul,Nat.reduceBEq,Nat.reduceBNe,Nat.reducePow,Int.reduceToNat,Int.reduceLE,Int.reduceLT,Int.reduceMul,Int.reduceEq,Int.reducePow,Int.reduceAdd,Int.reduceSub,Int.reduceNeg,reduceCtorEq] <;> rfl
 rintro ⟨k,ls⟩ ⟨hk,hS,hll,hlen⟩ ih
 simp only at hk hS hll hlen ih ⊢
 clear hlin hlt hlt' hR
 by_cases hlt : k < ss.length
 ·have hlt' : ((k : Int) < (ss.length : Int)) = True := eq_true (by omega)
  have hkw := cC (n := k) (by omega)
  have hg0 := xx hlt
  have hfl := mo ss
  have hst := y4 ls hll (by omega) ss[k] (hss.each _ (List.getElem_mem hlt))
  have hlin := tx (ls := ls) hll (s := ss[k])
  have hcs := eo ls
  rw [pX hlt k ls] at hS
  generalize ss[k] = s at *
  cases hr : fR ls s with
  | mk e l =>
  rw [hr] at hst hlin
  by_cases he : e = 0
  ·subst he
   rw [vi hr] at hS
   have ih' := ih (k + 1,ls ++ [l]) ⟨by simp only;omega,hS,fun x hx => by
    rcases List.mem_append.1 hx with h | h
    ·exact hll x h
    ·simp at h;subst h;exact hlin rfl,by simp only [List.length_append,List.length_cons,List.length_nil];omega⟩ (by simp only;omega)
   simp only [rZ,List.length_append,List.length_cons,List.length_nil] at ih'
   rw [iC] at hst
   clear ih hll hlin
   obtain ⟨parts,div⟩ := s
   repeat' (first | (with_reducible refine hY _ ?_;clear hY Y) | ((with_reducible first | refine aX rfl (aR fun K' hK' => aa ?_) | refine hK' _ (ab fun Y hY => aa ?_) | refine ab fun Y hY => aa ?_ | refine ag tk0 bJ (ab fun Y hY => aa ?_) | refine aa ?_);(try clear hK' K');(try dsimp only [aop]);try simp only [go_sem,↓reduceIte,Nat.reduceEqDiff,Nat.reduceLT,Nat.reduceLeDiff,Nat.reduceAdd,Nat.reduceSub,Nat.reduceMul,Nat.reduceBEq,Nat.reduceBNe,Nat.reducePow,Int.reduceToNat,Int.reduceLE,Int.reduceLT,Int.reduceMul,Int.reduceEq,Int.reducePow,Int.reduceAdd,Int.reduceSub,Int.reduceNeg,reduceCtorEq,bJ,Tryz.results81,hlt',hfl,hg0,hkw,hcs]) | (with_reducible first | refine aI ?_ | refine aP ?_ | refine aS ?_ | refine bi fun K hK => ?_ | refine aD ?_ | refine aC ?_ | refine ay ?_ | refine ah ?_ | refine av ?_) | (with_reducible refine hK _ ?_;clear hK K) | ((with_reducible refine ai ?_ ?_);(· decide)) | (with_reducible refine aV ?_ ?_;(· (try and_intros) <;> first | omega | assumption | (simp only [List.length_append,List.length_map,List.length_cons,List.length_nil] <;> omega))) | (with_reducible refine aK (dd hst ?_) ?_;(· simp [c6])) | (with_reducible refine ce (cu) ?_))
   refine bO [6,49,50,51] (by simp only [go_sem,↓reduceIte,Nat.reduceEqDiff,Nat.reduceLT,Nat.reduceLeDiff,Nat.reduceAdd,Nat.reduceSub,Nat.reduceMul,Nat.reduceBEq,Nat.reduceBNe,Nat.reducePow,Int.reduceToNat,Int.reduceLE,Int.reduceLT,Int.reduceMul,Int.reduceEq,Int.reducePow,Int.reduceAdd,Int.reduceSub,Int.reduceNeg,reduceCtorEq];exact rfl) ?_
   refine gF ih' ?_
   simp
  ·rw [vj hr he] at hS
   rw [hS,jl he,ub e k he,de he]
   rw [ra he,de he] at hst
   clear ih hll hlin
   obtain ⟨parts,div⟩ := s
   repeat' (first | (with_reducible refine hY _ ?_;clear hY Y) | ((with_reducible first | refine aX rfl (aR fun K' hK' => aa ?_) | refine hK' _ (ab fun Y hY => aa ?_) | refine ab fun Y hY => aa ?_ | refine ag tk0 bJ (ab fun Y hY => aa ?_) | refine aa ?_ | refine aH ?_);(try clear hK' K');(try dsimp only [aop]);try simp only [go_sem,↓reduceIte,Nat.reduceEqDiff,Nat.reduceLT,Nat.reduceLeDiff,Nat.reduceAdd,Nat.reduceSub,Nat.reduceMul,Nat.reduceBEq,Nat.reduceBNe,Nat.reducePow,Int.reduceToNat,Int.reduceLE,Int.reduceLT,Int.reduceMul,Int.reduceEq,Int.reducePow,Int.reduceAdd,Int.reduceSub,Int.reduceNeg,reduceCtorEq,bJ,Tryz.results81,hlt',hfl,hg0,hkw,hcs]) | (with_reducible first | refine aI ?_ | refine aP ?_ | refine aS ?_ | refine bi fun K hK => ?_ | refine aD ?_ | refine aQ ?_ | refine aA ?_ | refine ah ?_ | refine av ?_ | refine aL ?_) | (with_reducible refine hK _ ?_;clear hK K) | ((with_reducible refine ai ?_ ?_);(· decide)) | (with_reducible refine aV ?_ ?_;(· (try and_intros) <;> first | omega | assumption | (simp only [List.length_append,List.length_map,List.length_cons,List.length_nil] <;> omega))) | (with_reducible refine aK (dd hst ?_) ?_;(· simp [c6])))
 ·have hlt' : ((k : Int) < (ss.length : Int)) = False := eq_false (by omega)
  rw [List.drop_of_length_le (by omega)] at hS
  rw [hS,show dZ [] k ls = (0,-1,ls) from rfl,sY]
  clear ih hll
  repeat' (first | (with_reducible refine hY _ ?_;clear hY Y) | ((with_reducible first | refine aX rfl (aR fun K' hK' => aa ?_) | refine hK' _ (ab fun Y hY => aa ?_) | refine ab fun Y hY => aa ?_ | refine ag tk0 bJ (ab fun Y hY => aa ?_) | refine aa ?_ | refine aH ?_);(try clear hK' K');(try dsimp only [aop]);try simp only [go_sem,↓reduceIte,Nat.reduceEqDiff,Nat.reduceLT,Nat.reduceLeDiff,Nat.reduceAdd,Nat.reduceSub,Nat.reduceMul,Nat.reduceBEq,Nat.reduceBNe,Nat.reducePow,Int.reduceToNat,Int.reduceLE,Int.reduceLT,Int.reduceMul,Int.reduceEq,Int.reducePow,Int.reduceAdd,Int.reduceSub,Int.reduceNeg,reduceCtorEq,bJ,Tryz.results81,hlt']) | (with_reducible first | refine aI ?_ | refine aP ?_ | refine aS ?_ | refine bi fun K hK => ?_ | refine aC ?_ | refine aO ?_ | refine ax ?_ | refine aL ?_ | refine ar ?_) | (with_reducible refine hK _ ?_;clear hK K) | ((with_reducible refine ai ?_ ?_);(· decide)))
theorem wQ (ps : List Ln) (ss : List Stp) (hps : vA ps) (hss : oM ss) : AFn Tryz.prog 81 [gm ps,jD ss] [] (qR (dT ps ss)) [] := by
 refine nH (uE ps ss hps hss) 2 ?_
 generalize dT ps ss = q
 obtain ⟨e,z,ls⟩ := q
 unfold jk qR
 by_cases he : e = 0
 ·subst he;rw [if_pos rfl,rJ];rfl
 ·rw [if_neg he]
  unfold er
  split
  ·rw [de he];rfl
  ·unfold hI;rfl
end Go.Proofs.YtmpdocplcgbpkaaGreatDoor
namespace Go.Proofs.YtmpdocplcgbpkaaGreatDoor
set_option linter.unusedSimpArgs false
set_option linter.unusedVariables false
open Go.RowKit
end Go.Proofs.YtmpdocplcgbpkaaGreatDoor
namespace Go.Proofs.YtmpdocplcgbpkaaGreatDoor
set_option linter.unusedSimpArgs false
set_option linter.unusedVariables false
open Go.RowKit
end Go.Proofs.YtmpdocplcgbpkaaGreatDoor
namespace Go.Proofs.YtmpdocplcgbpkaaGreatDoor
set_option linter.unusedSimpArgs false
set_option linter.unusedVariables false
open Go.RowKit
end Go.Proofs.YtmpdocplcgbpkaaGreatDoor
namespace Go.Proofs.YtmpdocplcgbpkaaGreatDoor
set_option linter.unusedSimpArgs false
set_option linter.unusedVariables false
open Go.RowKit
def kj (l : Ln) : Bool := l.t.isEmpty && decide (0 < l.c)
theorem sV (t : List Tm) : t.isEmpty = decide ((t.length : Int) = 0) := by
 cases t with
 | nil => rfl
 | cons m r => simp;omega
def c7 : Nat → List Nat
 | 0 => [0]
 | 1 => [1]
 | _ => []
set_option maxRecDepth 100000 in
theorem yO (l : Ln) : AFn Tryz.prog 82 [.agg (lnA l)] [] (.c (.bool (kj l))) [] := by
 unfold kj
 rw [sV]
 by_cases h : (l.t.length : Int) = 0
 ·have h' : ((l.t.length : Int) = 0) = True := eq_true h
  refine bm [] Tryz.func82 rfl Tryz.ntmps82 (Nat.le_of_ble_eq_true rfl) (Nat.le_of_ble_eq_true rfl) fun w0 G0 B0 Pr hB0 => ?_
  simp only [bD,bj,List.cons_append,List.nil_append]
  repeat' (first | (with_reducible refine hY _ ?_;clear hY Y) | ((with_reducible first | refine aX rfl (aR fun K' hK' => aa ?_) | refine hK' _ (ab fun Y hY => aa ?_) | refine aW rfl (ab fun Y hY => aa ?_) | refine ab fun Y hY => aa ?_ | refine aR fun K' hK' => aa ?_ | refine ag tk0 c7 (ab fun Y hY => aa ?_) | refine aa ?_ | refine aH ?_);(try clear hK' K');(try dsimp only [aop]);try simp only [go_sem,↓reduceIte,Nat.reduceEqDiff,Nat.reduceLT,Nat.reduceLeDiff,Nat.reduceAdd,Nat.reduceSub,Nat.reduceMul,Nat.reduceBEq,Nat.reduceBNe,Nat.reducePow,Int.reduceToNat,Int.reduceLE,Int.reduceLT,Int.reduceMul,Int.reduceEq,Int.reducePow,Int.reduceAdd,Int.reduceSub,Int.reduceNeg,reduceCtorEq,c7,Tryz.results82,h']) | (with_reducible first | refine aI ?_ | refine ao ?_ | refine aP ?_ | refine aS ?_ | refine bi fun K hK => ?_ | refine aL ?_) | (with_reducible refine hK _ ?_;clear hK K) | ((with_reducible refine aF ?_ ?_);(· decide)))
 ·have h' : ((l.t.length : Int) = 0) = False := eq_false h
  refine bm [] Tryz.func82 rfl Tryz.ntmps82 (Nat.le_of_ble_eq_true rfl) (Nat.le_of_ble_eq_true rfl) fun w0 G0 B0 Pr hB0 => ?_
  simp only [bD,bj,List.cons_append,List.nil_append]
  repeat' (first | (with_reducible refine hY _ ?_;clear hY Y) | ((with_reducible first | refine aX rfl (aR fun K' hK' => aa ?_) | refine hK' _ (ab fun Y hY => aa ?_) | refine aW rfl (ab fun Y hY => aa ?_) | refine ab fun Y hY => aa ?_ | refine ag tk0 c7 (ab fun Y hY => aa ?_) | refine aa ?_ | refine aH ?_);(try clear hK' K');(try dsimp only [aop]);try simp only [go_sem,↓reduceIte,Nat.reduceEqDiff,Nat.reduceLT,Nat.reduceLeDiff,Nat.reduceAdd,Nat.reduceSub,Nat.reduceMul,Nat.reduceBEq,Nat.reduceBNe,Nat.reducePow,Int.reduceToNat,Int.reduceLE,Int.reduceLT,Int.reduceMul,Int.reduceEq,Int.reducePow,Int.reduceAdd,Int.reduceSub,Int.reduceNeg,reduceCtorEq,c7,Tryz.results82,h']) | (with_reducible first | refine aI ?_ | refine am rfl ?_ | refine bg ?_ ?_ | refine aP ?_ | refine aS ?_ | refine bi fun K hK => ?_ | refine aL ?_) | (with_reducible refine hK _ ?_;clear hK K) | ((with_reducible refine aF ?_ ?_);(· decide)))
def bu : Nat → List Nat
 | 0 => [0,1]
 | 1 => [0,1]
 | 2 => [0,1,7,8]
 | 3 => [0,1,7,8]
 | 4 => [0,1,5,7,8]
 | 5 => [5]
 | 6 => [0,1,7,8]
 | 7 => []
 | _ => []
set_option maxRecDepth 100000 in
set_option maxHeartbeats 8000000 in
theorem yv (l : List Ln) (hl : Lg l) :
  AFn Tryz.prog 106 [gm l,.fn (.func 82) [] []] [] (inA (fiP kj l)) [] := by
 unfold Lg at hl
 refine bm [] Tryz.func106 rfl Tryz.ntmps106 (Nat.le_of_ble_eq_true rfl) (Nat.le_of_ble_eq_true rfl) fun w0 G0 B0 Pr hB0 => ?_
 simp only [bD,bj,List.cons_append,List.nil_append]
 repeat' (first | (with_reducible refine hY _ ?_;clear hY Y) | ((with_reducible first | refine aX rfl (aR fun K' hK' => aa ?_) | refine hK' _ (ab fun Y hY => aa ?_) | refine ag tk0 bu (ab fun Y hY => aa ?_));(try clear hK' K');(try dsimp only [aop]);try simp only [go_sem,↓reduceIte,Nat.reduceEqDiff,Nat.reduceLT,Nat.reduceLeDiff,Nat.reduceAdd,Nat.reduceSub,Nat.reduceMul,Nat.reduceBEq,Nat.reduceBNe,Nat.reducePow,Int.reduceToNat,Int.reduceLE,Int.reduceLT,Int.reduceMul,Int.reduceEq,Int.reducePow,Int.reduceAdd,Int.reduceSub,Int.reduceNeg,reduceCtorEq,bu,Tryz.results106]) | (with_reducible first | refine aI ?_ | refine aP ?_ | refine aS ?_ | refine bi fun K hK => ?_ | refine ah ?_ | refine au ?_) | (with_reducible refine hK _ ?_;clear hK K))
 refine b7 (α := Nat) (fun k => [(0,gm l),(1,.fn (.func 82) [] []),(7,inA (l.length : Int)),(8,inA (k : Int))])
  (fun k => k ≤ l.length ∧ ∀ j (hj : j < l.length),j < k → kj l[j] = false) (fun k => l.length - k) 0 [0,1,7,8] ?_ ⟨Nat.zero_le _,fun j _ hj => absurd hj (Nat.not_lt_zero _)⟩ ?_
 ·simp only [go_sem,↓reduceIte,Nat.reduceEqDiff,Nat.reduceLT,Nat.reduceLeDiff,Nat.reduceAdd,Nat.reduceSub,Nat.reduceMul,Nat.reduceBEq,Nat.reduceBNe,Nat.reducePow,Int.reduceToNat,Int.reduceLE,Int.reduceLT,Int.reduceMul,Int.reduceEq,Int.reducePow,Int.reduceAdd,Int.reduceSub,Int.reduceNeg,reduceCtorEq] <;> rfl
 rintro k ⟨hk,hall⟩ ih
 by_cases hlt : k < l.length
 ·have hlt' : ((k : Int) < (l.length : Int)) = True := eq_true (by omega)
  have hkw := cC (n := k) (by omega)
  have h1 := yO l[k]
  have hg0 := i4 hlt
  have hfl := eo l
  have hfi := kU (p := kj) hlt hall
  have hnx : kj l[k] = false → ∀ j (hj : j < l.length),j < k + 1 → kj l[j] = false := fun e j hj hjk => by
   by_cases hj2 : j < k
   ·exact hall j hj hj2
   ·have : j = k := by omega
    subst this;exact e
  generalize l[k] = t at *
  generalize hp : kj t = b at *
  cases b with
  | true =>
   rw [hfi rfl]
   clear ih hfi hnx hall
   repeat' (first | (with_reducible refine hY _ ?_;clear hY Y) | ((with_reducible first | refine aX rfl (aR fun K' hK' => aa ?_) | refine hK' _ (ab fun Y hY => aa ?_) | refine ab fun Y hY => aa ?_ | refine ag tk0 bu (ab fun Y hY => aa ?_) | refine aa ?_ | refine aH ?_);(try clear hK' K');(try dsimp only [aop]);try simp only [go_sem,↓reduceIte,Nat.reduceEqDiff,Nat.reduceLT,Nat.reduceLeDiff,Nat.reduceAdd,Nat.reduceSub,Nat.reduceMul,Nat.reduceBEq,Nat.reduceBNe,Nat.reducePow,Int.reduceToNat,Int.reduceLE,Int.reduceLT,Int.reduceMul,Int.reduceEq,Int.reducePow,Int.reduceAdd,Int.reduceSub,Int.reduceNeg,reduceCtorEq,bu,Tryz.results106,hlt',hfl,hg0,hkw]) | (with_reducible first | refine aI ?_ | refine aP ?_ | refine aS ?_ | refine bi fun K hK => ?_ | refine aD ?_ | refine aQ ?_ | refine aA ?_ | refine ah ?_ | refine av ?_ | refine aL ?_) | (with_reducible refine hK _ ?_;clear hK K) | ((with_reducible refine ai ?_ ?_);(· decide)) | (with_reducible refine aV ?_ ?_;(· (try and_intros) <;> first | omega | assumption | (simp only [List.length_append,List.length_map,List.length_cons,List.length_nil] <;> omega))) | (with_reducible refine aK (h1) ?_))
  | false =>
   clear hfi
   repeat' (first | (with_reducible refine hY _ ?_;clear hY Y) | ((with_reducible first | refine aX rfl (aR fun K' hK' => aa ?_) | refine hK' _ (ab fun Y hY => aa ?_) | refine ab fun Y hY => aa ?_ | refine ag tk0 bu (ab fun Y hY => aa ?_) | refine aa ?_);(try clear hK' K');(try dsimp only [aop]);try simp only [go_sem,↓reduceIte,Nat.reduceEqDiff,Nat.reduceLT,Nat.reduceLeDiff,Nat.reduceAdd,Nat.reduceSub,Nat.reduceMul,Nat.reduceBEq,Nat.reduceBNe,Nat.reducePow,Int.reduceToNat,Int.reduceLE,Int.reduceLT,Int.reduceMul,Int.reduceEq,Int.reducePow,Int.reduceAdd,Int.reduceSub,Int.reduceNeg,reduceCtorEq,bu,Tryz.results106,hlt',hfl,hg0,hkw]) | (with_reducible first | refine aI ?_ | refine aP ?_ | refine aS ?_ | refine bi fun K hK => ?_ | refine aD ?_ | refine aC ?_ | refine ay ?_ | refine ah ?_ | refine av ?_) | (with_reducible refine hK _ ?_;clear hK K) | ((with_reducible refine ai ?_ ?_);(· decide)) | (with_reducible refine aV ?_ ?_;(· (try and_intros) <;> first | omega | assumption | (simp only [List.length_append,List.length_map,List.length_cons,List.length_nil] <;> omega))) | (with_reducible refine aK (h1) ?_))
   refine bO [0,1,7,8] (by simp only [go_sem,↓reduceIte,Nat.reduceEqDiff,Nat.reduceLT,Nat.reduceLeDiff,Nat.reduceAdd,Nat.reduceSub,Nat.reduceMul,Nat.reduceBEq,Nat.reduceBNe,Nat.reducePow,Int.reduceToNat,Int.reduceLE,Int.reduceLT,Int.reduceMul,Int.reduceEq,Int.reducePow,Int.reduceAdd,Int.reduceSub,Int.reduceNeg,reduceCtorEq];exact rfl) ?_
   exact ih (k + 1) ⟨by omega,hnx rfl⟩ (by omega)
 ·have hlt' : ((k : Int) < (l.length : Int)) = False := eq_false (by omega)
  rw [kV fun j hj => hall j hj (by omega)]
  clear ih hall
  repeat' (first | (with_reducible refine hY _ ?_;clear hY Y) | ((with_reducible first | refine aX rfl (aR fun K' hK' => aa ?_) | refine hK' _ (ab fun Y hY => aa ?_) | refine ab fun Y hY => aa ?_ | refine ag tk0 bu (ab fun Y hY => aa ?_) | refine aa ?_ | refine aH ?_);(try clear hK' K');(try dsimp only [aop]);try simp only [go_sem,↓reduceIte,Nat.reduceEqDiff,Nat.reduceLT,Nat.reduceLeDiff,Nat.reduceAdd,Nat.reduceSub,Nat.reduceMul,Nat.reduceBEq,Nat.reduceBNe,Nat.reducePow,Int.reduceToNat,Int.reduceLE,Int.reduceLT,Int.reduceMul,Int.reduceEq,Int.reducePow,Int.reduceAdd,Int.reduceSub,Int.reduceNeg,reduceCtorEq,bu,Tryz.results106,hlt']) | (with_reducible first | refine aI ?_ | refine aP ?_ | refine aS ?_ | refine bi fun K hK => ?_ | refine aC ?_ | refine aO ?_ | refine ax ?_ | refine aL ?_ | refine ar ?_) | (with_reducible refine hK _ ?_;clear hK K) | ((with_reducible refine ai ?_ ?_);(· decide)))
def cH : Nat → List Nat
 | 0 => [0,1]
 | 1 => [0,1]
 | _ => []
set_option maxRecDepth 100000 in
theorem yp (l : List Ln) (hl : Lg l) : AFn Tryz.prog 76 [gm l,.fn (.func 82) [] []] [] (.c (.bool (l.any kj))) [] := by
 have h1 := yv l hl
 have h2 : decide (0 ≤ fiP kj l) = l.any kj := jI kj l
 refine bm [] Tryz.func76 rfl Tryz.ntmps76 (Nat.le_of_ble_eq_true rfl) (Nat.le_of_ble_eq_true rfl) fun w0 G0 B0 Pr hB0 => ?_
 simp only [bD,bj,List.cons_append,List.nil_append]
 repeat' (first | (with_reducible refine hY _ ?_;clear hY Y) | ((with_reducible first | refine aX rfl (aR fun K' hK' => aa ?_) | refine hK' _ (ab fun Y hY => aa ?_) | refine ag tk0 cH (ab fun Y hY => aa ?_) | refine aa ?_ | refine aH ?_);(try clear hK' K');(try dsimp only [aop]);try simp only [go_sem,↓reduceIte,Nat.reduceEqDiff,Nat.reduceLT,Nat.reduceLeDiff,Nat.reduceAdd,Nat.reduceSub,Nat.reduceMul,Nat.reduceBEq,Nat.reduceBNe,Nat.reducePow,Int.reduceToNat,Int.reduceLE,Int.reduceLT,Int.reduceMul,Int.reduceEq,Int.reducePow,Int.reduceAdd,Int.reduceSub,Int.reduceNeg,reduceCtorEq,cH,Tryz.results76,h2]) | (with_reducible first | refine aI ?_ | refine aP ?_ | refine aS ?_ | refine bi fun K hK => ?_ | refine aL ?_) | (with_reducible refine hK _ ?_;clear hK K) | (with_reducible refine aK (h1) ?_))
theorem pw (ls : List Ln) : ∀ (p : List Tm) (c : Int) (ts : List Tm),(fC ls p c ts).1 ≤ 7
 | [],c,ts => Nat.zero_le _
 | m :: r,c,ts => by
  unfold fC
  split
  ·simp
  ·split
   ·simp
   ·exact pw ls r _ _
theorem qy (c : Int) (ts : List Tm) (div : Int) : (dG c ts div).1 ≤ 7 := by
 unfold dG
 repeat' split
 all_goals simp
theorem xw (ls : List Ln) (s : Stp) : (fR ls s).1 ≤ 7 := by
 unfold fR
 split
 ·simp
 ·simp only
  split
  ·exact qy _ _ _
  ·exact pw _ _ _ _
theorem pY : ∀ (ss : List Stp) (i : Nat) (ls : List Ln),(dZ ss i ls).1 ≤ 7 ∧ ((dZ ss i ls).1 = 0 → (dZ ss i ls).2.1 = -1) ∧ ((dZ ss i ls).1 = 0 → (dZ ss i ls).2.2.length = ls.length + ss.length)
 | [],i,ls => ⟨by simp [dZ],fun _ => rfl,fun _ => rfl⟩
 | s :: r,i,ls => by
  unfold dZ
  split
  ·obtain ⟨h1,h2,h3⟩ := pY r (i + 1) (ls ++ [(fR ls s).2])
   exact ⟨h1,h2,fun h => by rw [h3 h];simp;omega⟩
  ·rename_i h
   exact ⟨xw ls s,fun h2 => absurd h2 h,fun h2 => absurd h2 h⟩
theorem uD (ps : List Ln) (ss : List Stp) : (dT ps ss).1 ≤ 7 ∧ ((dT ps ss).1 = 0 → (dT ps ss).2.1 = -1) ∧ ((dT ps ss).1 = 0 → (dT ps ss).2.2.length = ps.length + ss.length ∧ ps.length ≤ 4096 ∧ ss.length ≤ 4096) := by
 unfold dT
 split
 ·exact ⟨by simp,fun h => by simp at h,fun h => by simp at h⟩
 ·rename_i hl
  split
  ·exact ⟨by simp,fun h => by simp at h,fun h => by simp at h⟩
  ·obtain ⟨h1,h2,h3⟩ := pY ss 0 ps
   exact ⟨h1,h2,fun h => ⟨h3 h,by omega,by omega⟩⟩
theorem pH (ps : List Ln) (ss : List Stp) : i9 ps ss = if (dT ps ss).1 = 0 then (if (dT ps ss).2.2.any kj then (0,-1) else (8,-1)) else ((dT ps ss).1,(dT ps ss).2.1) := rfl
def cm : Nat → List Nat
 | 0 => [0,1]
 | 1 => [0,1]
 | 2 => [5,6]
 | 3 => [6]
 | 4 => [5]
 | 5 => []
 | 6 => []
 | _ => []
set_option maxRecDepth 100000 in
set_option maxHeartbeats 8000000 in
theorem td (ps : List Ln) (ss : List Stp) (hps : vA ps) (hss : oM ss) : AFn Tryz.prog 40 [gm ps,jD ss] [] (er (i9 ps ss).1 (i9 ps ss).2) [] := by
 have hl := wQ ps ss hps hss
 have hq := uD ps ss
 rw [pH]
 generalize dT ps ss = q at *
 obtain ⟨e,z,ls⟩ := q
 unfold qR at hl
 simp only at hl hq ⊢
 by_cases he : e = 0
 ·subst he
  rw [rJ] at hl
  have hlen := (hq.2.2 rfl)
  have hc := yp ls (by unfold Lg;omega)
  rw [if_pos rfl]
  cases ha : ls.any kj with
  | true =>
   rw [ha] at hc
   rw [if_pos rfl,rJ]
   refine bm [] Tryz.func40 rfl Tryz.ntmps40 (Nat.le_of_ble_eq_true rfl) (Nat.le_of_ble_eq_true rfl) fun w0 G0 B0 Pr hB0 => ?_
   simp only [bD,bj,List.cons_append,List.nil_append]
   repeat' (first | (with_reducible refine hY _ ?_;clear hY Y) | ((with_reducible first | refine aX rfl (aR fun K' hK' => aa ?_) | refine hK' _ (ab fun Y hY => aa ?_) | refine ab fun Y hY => aa ?_ | refine ag tk0 cm (ab fun Y hY => aa ?_) | refine aa ?_ | refine aH ?_);(try clear hK' K');(try dsimp only [aop]);try simp only [go_sem,↓reduceIte,Nat.reduceEqDiff,Nat.reduceLT,Nat.reduceLeDiff,Nat.reduceAdd,Nat.reduceSub,Nat.reduceMul,Nat.reduceBEq,Nat.reduceBNe,Nat.reducePow,Int.reduceToNat,Int.reduceLE,Int.reduceLT,Int.reduceMul,Int.reduceEq,Int.reducePow,Int.reduceAdd,Int.reduceSub,Int.reduceNeg,reduceCtorEq,cm,Tryz.results40]) | (with_reducible first | refine aI ?_ | refine aP ?_ | refine aS ?_ | refine bi fun K hK => ?_ | refine aC ?_ | refine av ?_ | refine aL ?_) | (with_reducible refine hK _ ?_;clear hK K) | ((with_reducible refine ai ?_ ?_);(· decide)) | (with_reducible refine aK (hl) ?_) | (with_reducible refine aK (hc) ?_) | (with_reducible refine ce (cu) ?_))
  | false =>
   rw [ha] at hc
   rw [if_neg (by decide),show er (8,(-1 : Int)).1 (8,(-1 : Int)).2 = cK 8 from rfl,yf]
   refine bm [] Tryz.func40 rfl Tryz.ntmps40 (Nat.le_of_ble_eq_true rfl) (Nat.le_of_ble_eq_true rfl) fun w0 G0 B0 Pr hB0 => ?_
   simp only [bD,bj,List.cons_append,List.nil_append]
   repeat' (first | (with_reducible refine hY _ ?_;clear hY Y) | ((with_reducible first | refine aX rfl (aR fun K' hK' => aa ?_) | refine hK' _ (ab fun Y hY => aa ?_) | refine ab fun Y hY => aa ?_ | refine ag tk0 cm (ab fun Y hY => aa ?_) | refine aa ?_ | refine aH ?_);(try clear hK' K');(try dsimp only [aop]);try simp only [go_sem,↓reduceIte,Nat.reduceEqDiff,Nat.reduceLT,Nat.reduceLeDiff,Nat.reduceAdd,Nat.reduceSub,Nat.reduceMul,Nat.reduceBEq,Nat.reduceBNe,Nat.reducePow,Int.reduceToNat,Int.reduceLE,Int.reduceLT,Int.reduceMul,Int.reduceEq,Int.reducePow,Int.reduceAdd,Int.reduceSub,Int.reduceNeg,reduceCtorEq,cm,Tryz.results40]) | (with_reducible first | refine aI ?_ | refine aP ?_ | refine aS ?_ | refine bi fun K hK => ?_ | refine aD ?_ | refine aC ?_ | refine aQ ?_ | refine av ?_ | refine aL ?_) | (with_reducible refine hK _ ?_;clear hK K) | ((with_reducible refine ai ?_ ?_);(· decide)) | (with_reducible refine aK (hl) ?_) | (with_reducible refine aK (hc) ?_) | (with_reducible refine ce (cu) ?_))
 ·rw [if_neg he]
  simp only
  by_cases hz : z < 0
  ·rw [show er e z = cK e from if_pos (.inl hz),de he] at hl ⊢
   refine bm [] Tryz.func40 rfl Tryz.ntmps40 (Nat.le_of_ble_eq_true rfl) (Nat.le_of_ble_eq_true rfl) fun w0 G0 B0 Pr hB0 => ?_
   simp only [bD,bj,List.cons_append,List.nil_append]
   repeat' (first | (with_reducible refine hY _ ?_;clear hY Y) | ((with_reducible first | refine aX rfl (aR fun K' hK' => aa ?_) | refine hK' _ (ab fun Y hY => aa ?_) | refine ab fun Y hY => aa ?_ | refine ag tk0 cm (ab fun Y hY => aa ?_) | refine aa ?_ | refine aH ?_);(try clear hK' K');(try dsimp only [aop]);try simp only [go_sem,↓reduceIte,Nat.reduceEqDiff,Nat.reduceLT,Nat.reduceLeDiff,Nat.reduceAdd,Nat.reduceSub,Nat.reduceMul,Nat.reduceBEq,Nat.reduceBNe,Nat.reducePow,Int.reduceToNat,Int.reduceLE,Int.reduceLT,Int.reduceMul,Int.reduceEq,Int.reducePow,Int.reduceAdd,Int.reduceSub,Int.reduceNeg,reduceCtorEq,cm,Tryz.results40]) | (with_reducible first | refine aI ?_ | refine aP ?_ | refine aS ?_ | refine bi fun K hK => ?_ | refine aD ?_ | refine aQ ?_ | refine aL ?_) | (with_reducible refine hK _ ?_;clear hK K) | ((with_reducible refine ai ?_ ?_);(· decide)) | (with_reducible refine aK (hl) ?_))
  ·rw [show er e z = hI z e from if_neg (by omega)] at hl ⊢
   unfold hI at hl ⊢
   refine bm [] Tryz.func40 rfl Tryz.ntmps40 (Nat.le_of_ble_eq_true rfl) (Nat.le_of_ble_eq_true rfl) fun w0 G0 B0 Pr hB0 => ?_
   simp only [bD,bj,List.cons_append,List.nil_append]
   repeat' (first | (with_reducible refine hY _ ?_;clear hY Y) | ((with_reducible first | refine aX rfl (aR fun K' hK' => aa ?_) | refine hK' _ (ab fun Y hY => aa ?_) | refine ab fun Y hY => aa ?_ | refine ag tk0 cm (ab fun Y hY => aa ?_) | refine aa ?_ | refine aH ?_);(try clear hK' K');(try dsimp only [aop]);try simp only [go_sem,↓reduceIte,Nat.reduceEqDiff,Nat.reduceLT,Nat.reduceLeDiff,Nat.reduceAdd,Nat.reduceSub,Nat.reduceMul,Nat.reduceBEq,Nat.reduceBNe,Nat.reducePow,Int.reduceToNat,Int.reduceLE,Int.reduceLT,Int.reduceMul,Int.reduceEq,Int.reducePow,Int.reduceAdd,Int.reduceSub,Int.reduceNeg,reduceCtorEq,cm,Tryz.results40]) | (with_reducible first | refine aI ?_ | refine aP ?_ | refine aS ?_ | refine bi fun K hK => ?_ | refine aD ?_ | refine aQ ?_ | refine aL ?_) | (with_reducible refine hK _ ?_;clear hK K) | ((with_reducible refine ai ?_ ?_);(· decide)) | (with_reducible refine aK (hl) ?_))
end Go.Proofs.YtmpdocplcgbpkaaGreatDoor
namespace Go.Proofs.YtmpdocplcgbpkaaGreatDoor
set_option linter.unusedSimpArgs false
set_option linter.unusedVariables false
theorem uP {a b : List Fo} (h1 : jF a) (h2 : jF b) : jF (a ++ b) := ou fun f hf => (List.mem_append.1 hf).elim (g6 h1 f) (g6 h2 f)
theorem eP {α : Type} : Lg ([] : List α) := by unfold Lg;simp
theorem uA {α : Type} (x : α) : Lg [x] := by unfold Lg;simp
theorem uC {α : Type} (x y : α) : Lg [x,y] := by unfold Lg;simp
theorem jB : OkF fT := ⟨eP,eP,trivial⟩
theorem xY : OkF fF := ⟨eP,eP,trivial⟩
theorem uB {l : Ln} (h : Lg l.t) : Lg (iM l).t := by unfold Lg iM;rw [iR];exact h
theorem pj {x : Int} {t : List Tm} (h : Lg t) : Lg (c4 x t) := by unfold Lg c4;rw [List.length_map];exact h
theorem sc {l : Ln} (h : Lg l.t) : OkF (fO l).2 := by
 unfold fO
 split
 ·exact jB
 ·split
  ·split
   ·exact jB
   ·exact xY
  ·split
   ·exact ⟨uB h,eP,trivial⟩
   ·split
    ·exact ⟨eP,uA _,⟨pj (uB h),eP,trivial⟩,trivial⟩
    ·exact jB
theorem lD : ∀ {f : Fo},OkF f → OkF (mc f)
 | .mk k l ks,h => by
  show OkF (if k = 0 then fF else if k = 1 then fT else if k = 4 then ks.headD fT else .mk 4 ⟨0,[]⟩ [.mk k l ks])
  split
  ·exact xY
  ·split
   ·exact jB
   ·split
    ·cases ks with
     | nil => exact jB
     | cons f r => exact h.2.2.1
    ·exact ⟨eP,uA _,h,trivial⟩
theorem uO {k : Int} {l : Ln} (h : Lg l.t) (no : Bool) : OkF (i3 k l no).2 := by
 have h1 := sc h
 have h2 : OkF (fO (kJ l)).2 := sc (l := kJ l) (pj h)
 unfold i3
 split
 ·exact jB
 ·split
  ·cases no
   ·exact h1
   ·exact lD h1
  ·split
   ·exact jB
   ·cases no
    ·exact ⟨eP,uC _ _,h1,h2,trivial⟩
    ·exact ⟨eP,uC _ _,lD h1,lD h2,trivial⟩
mutual
theorem kK : ∀ (f : Fo) (no : Bool),OkF f → OkF (eD f no).2
 | .mk k l ks,no,h => by
  rw [eD]
  split
  ·exact uO h.1 no
  ·split
   ·exact s7 ks (!no) h.2.2
   ·split
    ·split
     ·obtain ⟨h1,h2⟩ := nh ks no [] h.2.2 trivial
      exact ⟨eP,by have := h.2.1;unfold Lg at this ⊢;simp only [List.length_nil] at h2;omega,h1⟩
     ·exact jB
    ·cases no
     ·exact h
     ·exact lD h
theorem s7 : ∀ (ks : List Fo) (no : Bool),jF ks → OkF (i7 ks no).2
 | [],_,_ => by rw [i7];exact jB
 | f :: r,no,h => by rw [i7];exact kK f no h.1
theorem nh : ∀ (ks : List Fo) (no : Bool) (out : List Fo),jF ks → jF out → jF (ed ks no out).2 ∧ (ed ks no out).2.length ≤ out.length + ks.length
 | [],_,out,_,h => by rw [ed];exact ⟨h,Nat.le_refl _⟩
 | f :: r,no,out,hk,h => by
  rw [ed]
  split
  ·obtain ⟨h1,h2⟩ := nh r no (out ++ [(eD f no).2]) hk.2 (uP h ⟨kK f no hk.1,trivial⟩)
   refine ⟨h1,?_⟩
   rw [List.length_append,List.length_singleton] at h2
   rw [List.length_cons];omega
  ·exact ⟨trivial,Nat.zero_le _⟩
end
theorem pr {f : Fo} (h : OkF f) : OkF (du f).2 := by
 unfold du
 split
 ·exact kK f false h
 ·exact jB
theorem uQ {ls : List Ln} {z : Int} (hl : ∀ l ∈ ls,dg l = true) (hz : lM ls.length z = false) : (jw ls z).2.t.length ≤ 64 := by
 obtain ⟨i,hi,he,_⟩ := rD hz
 have h64 := (fi (hl _ (List.getElem_mem hi))).2.1
 unfold jw
 rw [he]
 split
 ·exact h64
 ·split
  ·show (c4 (-1) ls[i].t).length ≤ 64
   unfold c4
   rw [List.length_map];exact h64
  ·exact Nat.zero_le _
theorem xa {ls : List Ln} {zs : List Int} (hz : zs.length ≤ 100000) : vA (g8 ls zs).2 := by
 by_cases h : (g8 ls zs).1 = 0
 ·obtain ⟨h1,h2,h3⟩ := uV h
  rw [h3]
  refine ⟨by unfold Lg;rw [List.length_map];omega,fun l hl => ?_⟩
  obtain ⟨z,hz,rfl⟩ := List.mem_map.1 hl
  have := uQ h1 (h2 z hz)
  omega
 ·have : (g8 ls zs).2 = [] := by
   unfold g8 at h ⊢
   split
   ·rfl
   ·split
    ·rfl
    ·rename_i h1 h2
     rw [if_neg h1,if_neg h2] at h
     exact pB ls zs [] h
  rw [this]
  exact ⟨eP,fun l hl => absurd hl List.not_mem_nil⟩
theorem qP {ls : List Ln} {ms : List Lem} {i : Nat} (h : i < ms.length) : iH ls (ms.drop i) i = if qO ls ms[i] ≠ 0 then (qO ls ms[i],(i : Int)) else iH ls (ms.drop (i + 1)) (i + 1) := by
 rw [List.drop_eq_getElem_cons h,iH]
end Go.Proofs.YtmpdocplcgbpkaaGreatDoor

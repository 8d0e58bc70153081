/- Cut in K: numbers rounded up; a line, if it may be one. Normalizing: plain. No program is in sight. -/
import Derived.Test.YtmpdocplcgbpkaaGreatDoorZ15
import Derived.Test.YtmpdocplcgbpkaaGreatDoorZ9
namespace Go.Proofs.YtmpdocplcgbpkaaGreatDoor
set_option linter.unusedSimpArgs false
set_option linter.unusedVariables false
open Go.RowKit
theorem kq (a g : Int) : -(a.natAbs : Int) ≤ a.tdiv g ∧ a.tdiv g ≤ (a.natAbs : Int) := by
 have h := Int.natAbs_tdiv a g
 have h2 : a.natAbs.div g.natAbs ≤ a.natAbs := Nat.div_le_self _ _
 omega
theorem tdm (a g : Int) (hg : 1 ≤ g) : a.tdiv g * g + a.tmod g = a ∧ -g < a.tmod g ∧ a.tmod g < g := by
 refine ⟨by rw [Int.mul_comm];exact Int.mul_tdiv_add_tmod a g,?_,?_⟩
 ·have h1 := Int.natAbs_tmod a g
  have h2 : a.natAbs % g.natAbs < g.natAbs := Nat.mod_lt _ (by omega)
  omega
 ·exact Int.tmod_lt_of_pos a (by omega)
def dx : Nat → List Nat
 | 0 => [0,1]
 | 1 => [0,1]
 | 2 => [0,1,5]
 | 3 => [5]
 | 4 => [5]
 | _ => []
set_option maxRecDepth 100000 in
theorem zO (a g : Int) (hg : 1 ≤ g ∧ g ≤ 1073741824) (ha : -1125899906842624 ≤ a ∧ a ≤ 1125899906842624) : AFn Tryz.prog 130 [inA a,inA g] [] (inA (upZ a g)) [] := by
 have hb := kq a g
 have hg0 : (g = 0) = False := eq_false (by omega)
 have hq : IntKind.i64.wrap (a.tdiv g) = a.tdiv g := bQ (by omega) (by omega)
 have hq1 : IntKind.i64.wrap (a.tdiv g + 1) = a.tdiv g + 1 := bQ (by omega) (by omega)
 unfold upZ
 by_cases hr : 0 < a.tmod g
 ·rw [if_pos hr]
  refine bm [] Tryz.func130 rfl Tryz.ntmps130 (Nat.le_of_ble_eq_true rfl) (Nat.le_of_ble_eq_true rfl) fun w0 G0 B0 Pr hB0 => ?_
  simp only [bD,bj,List.cons_append,List.nil_append]
  repeat' (first | (with_reducible refine hY _ ?_;clear hY Y) | ((with_reducible first | refine aX rfl (aR fun K' hK' => aa ?_) | refine hK' _ (ab fun Y hY => aa ?_) | refine ab fun Y hY => aa ?_ | refine ag tk0 dx (ab fun Y hY => aa ?_) | refine aa ?_ | refine aH ?_);(try clear hK' K');(try dsimp only [aop]);try simp only [go_sem,↓reduceIte,Nat.reduceEqDiff,Nat.reduceLT,Nat.reduceLeDiff,Nat.reduceAdd,Nat.reduceSub,Nat.reduceMul,Nat.reduceBEq,Nat.reduceBNe,Nat.reducePow,Int.reduceToNat,Int.reduceLE,Int.reduceLT,Int.reduceMul,Int.reduceEq,Int.reducePow,Int.reduceAdd,Int.reduceSub,Int.reduceNeg,reduceCtorEq,dx,Tryz.results130,hg0,hq,hq1,hr]) | (with_reducible first | refine aI ?_ | refine aP ?_ | refine aS ?_ | refine bi fun K hK => ?_ | refine aD ?_ | refine aL ?_) | (with_reducible refine hK _ ?_;clear hK K) | ((with_reducible refine ai ?_ ?_);(· decide)))
 ·rw [if_neg hr,Int.add_zero]
  refine bm [] Tryz.func130 rfl Tryz.ntmps130 (Nat.le_of_ble_eq_true rfl) (Nat.le_of_ble_eq_true rfl) fun w0 G0 B0 Pr hB0 => ?_
  simp only [bD,bj,List.cons_append,List.nil_append]
  repeat' (first | (with_reducible refine hY _ ?_;clear hY Y) | ((with_reducible first | refine aX rfl (aR fun K' hK' => aa ?_) | refine hK' _ (ab fun Y hY => aa ?_) | refine ab fun Y hY => aa ?_ | refine ag tk0 dx (ab fun Y hY => aa ?_) | refine aa ?_ | refine aH ?_);(try clear hK' K');(try dsimp only [aop]);try simp only [go_sem,↓reduceIte,Nat.reduceEqDiff,Nat.reduceLT,Nat.reduceLeDiff,Nat.reduceAdd,Nat.reduceSub,Nat.reduceMul,Nat.reduceBEq,Nat.reduceBNe,Nat.reducePow,Int.reduceToNat,Int.reduceLE,Int.reduceLT,Int.reduceMul,Int.reduceEq,Int.reducePow,Int.reduceAdd,Int.reduceSub,Int.reduceNeg,reduceCtorEq,dx,Tryz.results130,hg0,hq,hq1,hr]) | (with_reducible first | refine aI ?_ | refine aP ?_ | refine aS ?_ | refine bi fun K hK => ?_ | refine aC ?_ | refine av ?_ | refine aL ?_) | (with_reducible refine hK _ ?_;clear hK K) | ((with_reducible refine ai ?_ ?_);(· decide)))
def kN (q : Nat × Ln) : AV := .tup [.agg (if q.1 = 0 then lnA q.2 else [inA 0,.sl [] 0 .full]),cK q.1]
def oC (l : Ln) : Nat × Ln := if !dc l.c || l.t.any (fun m => !dc m.2) then (3,⟨0,[]⟩) else if 64 < l.t.length then (2,⟨0,[]⟩) else (0,l)
theorem jO (l : Ln) : kN (3,l) = .tup [.agg [inA 0,.sl [] 0 .full],.ifc 50 (.c (.int .i64 3))] := rfl
theorem uZ (l : Ln) : kN (2,l) = .tup [.agg [inA 0,.sl [] 0 .full],.ifc 50 (.c (.int .i64 2))] := rfl
theorem oz (l : Ln) : kN (1,l) = .tup [.agg [inA 0,.sl [] 0 .full],.ifc 50 (.c (.int .i64 1))] := rfl
theorem u2 (l : Ln) : kN (6,l) = .tup [.agg [inA 0,.sl [] 0 .full],.ifc 50 (.c (.int .i64 6))] := rfl
theorem yU (l : Ln) : kN (7,l) = .tup [.agg [inA 0,.sl [] 0 .full],.ifc 50 (.c (.int .i64 7))] := rfl
theorem ra {e : Nat} (h : e ≠ 0) (l : Ln) : kN (e,l) = .tup [.agg [inA 0,.sl [] 0 .full],cK e] := by unfold kN;rw [if_neg h]
theorem iC (l : Ln) : kN (0,l) = .tup [.agg (lnA l),.c .nilIface] := rfl
theorem sF {t : List Tm} {p : Tm → Bool} {k : Nat} (h : k < t.length) (hk : (t.take k).any p = false) (h1 : p t[k] = false) : (t.take (k + 1)).any p = false := by
 rw [List.take_succ_eq_append_getElem h,List.any_append,hk,List.any_cons,h1];rfl
theorem tN {t : List Tm} {p : Tm → Bool} {k : Nat} (h : k < t.length) (h1 : p t[k] = true) : t.any p = true := List.any_eq_true.2 ⟨_,List.getElem_mem h,h1⟩
def b5 : Nat → List Nat
 | 0 => [0]
 | 1 => [1,2]
 | 2 => [1,2,12,13,14]
 | 3 => [1,2,12,13,14]
 | 4 => [1,2,5,12,13,14]
 | 5 => [2]
 | 6 => [1,2,12,13,14]
 | 7 => [1,2]
 | 8 => [2]
 | 9 => [1,2]
 | _ => []
set_option maxRecDepth 100000 in
set_option maxHeartbeats 8000000 in
theorem xv (l : Ln) (hl : l.t.length ≤ 1099511627776) : AFn Tryz.prog 133 [.agg (lnA l)] [] (kN (oC l)) [] := by
 obtain ⟨c,t⟩ := l
 have hs : ∀ b,(((0,c) :: t).any fun m : Tm => !dc m.2) = b → oC ⟨c,t⟩ = if b then (3,⟨0,[]⟩) else if 64 < t.length then (2,⟨0,[]⟩) else (0,⟨c,t⟩) := fun b h => by subst h;rfl
 have hfl := cM t
 have hb1 : (1 + t.length) * 16 ≤ 140737488355328 := by have : t.length ≤ 1099511627776 := hl;omega
 have hb2 : 1 + t.length ≤ 140737488355328 := by omega
 refine bm [] Tryz.func133 rfl Tryz.ntmps133 (Nat.le_of_ble_eq_true rfl) (Nat.le_of_ble_eq_true rfl) fun w0 G0 B0 Pr hB0 => ?_
 simp only [bD,bj,List.cons_append,List.nil_append]
 repeat' (first | (with_reducible refine hY _ ?_;clear hY Y) | ((with_reducible first | refine aX rfl (aR fun K' hK' => aa ?_) | refine hK' _ (ab fun Y hY => aa ?_) | refine ag tk0 b5 (ab fun Y hY => aa ?_));(try clear hK' K');(try dsimp only [aop]);try simp only [go_sem,↓reduceIte,Nat.reduceEqDiff,Nat.reduceLT,Nat.reduceLeDiff,Nat.reduceAdd,Nat.reduceSub,Nat.reduceMul,Nat.reduceBEq,Nat.reduceBNe,Nat.reducePow,Int.reduceToNat,Int.reduceLE,Int.reduceLT,Int.reduceMul,Int.reduceEq,Int.reducePow,Int.reduceAdd,Int.reduceSub,Int.reduceNeg,reduceCtorEq,b5,Tryz.results133,hfl]) | (with_reducible first | refine aI ?_ | refine aP ?_ | refine aS ?_ | refine bi fun K hK => ?_ | refine ah ?_ | refine au ?_) | (with_reducible refine hK _ ?_;clear hK K) | (with_reducible refine aV ?_ ?_;(· (try and_intros) <;> first | omega | assumption | (simp only [List.length_append,List.length_map,List.length_cons,List.length_nil] <;> omega))))
 refine b7 (α := Nat) (fun k => [(1,.loc 10001 0),(2,.loc 10002 0),(12,.sl (inA 0 :: inA c :: bn t) (1 + t.length) (.tok 10012)),(13,inA ((1 + t.length : Nat) : Int)),(14,inA (k : Int)),(10001,.bc [inA c,.sl (bn t) t.length .none] 24),(10002,.bc [inA 0,.sl [] 0 .full] 24),(10012,.bt (1 + t.length) 94)])
  (fun k => k ≤ 1 + t.length ∧ (((0,c) :: t).take k).any (fun m : Tm => !dc m.2) = false) (fun k => 1 + t.length - k) 0 [1,2,12,13,14] ?_ ⟨Nat.zero_le _,rfl⟩ ?_
 ·simp only [go_sem,↓reduceIte,Nat.reduceEqDiff,Nat.reduceLT,Nat.reduceLeDiff,Nat.reduceAdd,Nat.reduceSub,Nat.reduceMul,Nat.reduceBEq,Nat.reduceBNe,Nat.reducePow,Int.reduceToNat,Int.reduceLE,Int.reduceLT,Int.reduceMul,Int.reduceEq,Int.reducePow,Int.reduceAdd,Int.reduceSub,Int.reduceNeg,reduceCtorEq] <;> rfl
 rintro k ⟨hk,hall⟩ ih
 have hNl : ((0,c) :: t : List Tm).length = 1 + t.length := by rw [List.length_cons];omega
 by_cases hlt : k < 1 + t.length
 ·have hlt' : ((k : Int) < ((1 + t.length : Nat) : Int)) = True := eq_true (by omega)
  have hkw := cC (n := k) (by omega)
  have hlT : k < ((0,c) :: t : List Tm).length := by omega
  have hg0 : ((inA 0 :: inA c :: bn t).drop (k * 2)).take 2 = _ := eM hlT
  have hfl2 : (inA 0 :: inA c :: bn t).length = (1 + t.length) * 2 := by rw [List.length_cons,List.length_cons,hfl];omega
  have hyes : (!dc ((0,c) :: t : List Tm)[k].2) = true → _ := fun e => hs true (tN (p := fun m : Tm => !dc m.2) hlT e)
  have hnx : (!dc ((0,c) :: t : List Tm)[k].2) = false → _ := fun e => ih (k + 1) ⟨by omega,sF (p := fun m : Tm => !dc m.2) hlT hall e⟩ (by omega)
  clear ih hs hall
  generalize ((0,c) :: t : List Tm)[k] = m at *
  obtain ⟨v,x⟩ := m
  simp only at hyes hnx hg0
  generalize hCS : inA 0 :: inA c :: bn t = CS at *
  by_cases hx1 : x < -1073741824
  ·rw [hyes (by unfold dc;simp;omega),if_pos trivial,jO]
   clear hnx hyes
   repeat' (first | (with_reducible refine hY _ ?_;clear hY Y) | ((with_reducible first | refine aX rfl (aR fun K' hK' => aa ?_) | refine hK' _ (ab fun Y hY => aa ?_) | refine aW rfl (ab fun Y hY => aa ?_) | refine ab fun Y hY => aa ?_ | refine ag tk0 b5 (ab fun Y hY => aa ?_) | refine aa ?_ | refine aH ?_);(try clear hK' K');(try dsimp only [aop]);try simp only [go_sem,↓reduceIte,Nat.reduceEqDiff,Nat.reduceLT,Nat.reduceLeDiff,Nat.reduceAdd,Nat.reduceSub,Nat.reduceMul,Nat.reduceBEq,Nat.reduceBNe,Nat.reducePow,Int.reduceToNat,Int.reduceLE,Int.reduceLT,Int.reduceMul,Int.reduceEq,Int.reducePow,Int.reduceAdd,Int.reduceSub,Int.reduceNeg,reduceCtorEq,b5,Tryz.results133,hlt',hfl2,hg0,hx1]) | (with_reducible first | refine aI ?_ | refine am rfl ?_ | refine bg ?_ ?_ | refine aP ?_ | refine aS ?_ | refine bi fun K hK => ?_ | refine aD ?_ | refine aQ ?_ | refine aA ?_ | refine ah ?_ | refine av ?_ | refine aL ?_) | (with_reducible refine hK _ ?_;clear hK K) | ((with_reducible first | refine aF ?_ ?_ | refine ai ?_ ?_);(· decide)) | (with_reducible refine aV ?_ ?_;(· (try and_intros) <;> first | omega | assumption | (simp only [List.length_append,List.length_map,List.length_cons,List.length_nil] <;> omega))))
  by_cases hx2 : 1073741824 < x
  ·rw [hyes (by unfold dc;simp;omega),if_pos trivial,jO]
   clear hnx hyes
   repeat' (first | (with_reducible refine hY _ ?_;clear hY Y) | ((with_reducible first | refine aX rfl (aR fun K' hK' => aa ?_) | refine hK' _ (ab fun Y hY => aa ?_) | refine aW rfl (ab fun Y hY => aa ?_) | refine ab fun Y hY => aa ?_ | refine aR fun K' hK' => aa ?_ | refine ag tk0 b5 (ab fun Y hY => aa ?_) | refine aa ?_ | refine aH ?_);(try clear hK' K');(try dsimp only [aop]);try simp only [go_sem,↓reduceIte,Nat.reduceEqDiff,Nat.reduceLT,Nat.reduceLeDiff,Nat.reduceAdd,Nat.reduceSub,Nat.reduceMul,Nat.reduceBEq,Nat.reduceBNe,Nat.reducePow,Int.reduceToNat,Int.reduceLE,Int.reduceLT,Int.reduceMul,Int.reduceEq,Int.reducePow,Int.reduceAdd,Int.reduceSub,Int.reduceNeg,reduceCtorEq,b5,Tryz.results133,hlt',hfl2,hg0,hx1,hx2]) | (with_reducible first | refine aI ?_ | refine ao ?_ | refine aP ?_ | refine aS ?_ | refine bi fun K hK => ?_ | refine aD ?_ | refine aQ ?_ | refine aA ?_ | refine ah ?_ | refine av ?_ | refine aL ?_) | (with_reducible refine hK _ ?_;clear hK K) | ((with_reducible first | refine aF ?_ ?_ | refine ai ?_ ?_);(· decide)) | (with_reducible refine aV ?_ ?_;(· (try and_intros) <;> first | omega | assumption | (simp only [List.length_append,List.length_map,List.length_cons,List.length_nil] <;> omega))))
  clear hyes
  repeat' (first | (with_reducible refine hY _ ?_;clear hY Y) | ((with_reducible first | refine aX rfl (aR fun K' hK' => aa ?_) | refine hK' _ (ab fun Y hY => aa ?_) | refine aW rfl (ab fun Y hY => aa ?_) | refine ab fun Y hY => aa ?_ | refine aR fun K' hK' => aa ?_ | refine ag tk0 b5 (ab fun Y hY => aa ?_));(try clear hK' K');(try dsimp only [aop]);try simp only [go_sem,↓reduceIte,Nat.reduceEqDiff,Nat.reduceLT,Nat.reduceLeDiff,Nat.reduceAdd,Nat.reduceSub,Nat.reduceMul,Nat.reduceBEq,Nat.reduceBNe,Nat.reducePow,Int.reduceToNat,Int.reduceLE,Int.reduceLT,Int.reduceMul,Int.reduceEq,Int.reducePow,Int.reduceAdd,Int.reduceSub,Int.reduceNeg,reduceCtorEq,b5,Tryz.results133,hlt',hfl2,hg0,hx1,hx2,hkw]) | (with_reducible first | refine aI ?_ | refine ao ?_ | refine aP ?_ | refine aS ?_ | refine bi fun K hK => ?_ | refine aD ?_ | refine aC ?_ | refine ay ?_ | refine ah ?_ | refine av ?_) | (with_reducible refine hK _ ?_;clear hK K) | ((with_reducible first | refine aF ?_ ?_ | refine ai ?_ ?_);(· decide)) | (with_reducible refine aV ?_ ?_;(· (try and_intros) <;> first | omega | assumption | (simp only [List.length_append,List.length_map,List.length_cons,List.length_nil] <;> omega))))
  refine bO [1,2,12,13,14] (by simp only [go_sem,↓reduceIte,Nat.reduceEqDiff,Nat.reduceLT,Nat.reduceLeDiff,Nat.reduceAdd,Nat.reduceSub,Nat.reduceMul,Nat.reduceBEq,Nat.reduceBNe,Nat.reducePow,Int.reduceToNat,Int.reduceLE,Int.reduceLT,Int.reduceMul,Int.reduceEq,Int.reducePow,Int.reduceAdd,Int.reduceSub,Int.reduceNeg,reduceCtorEq];exact rfl) ?_
  exact hnx (by unfold dc;simp;omega)
 ·have hlt' : ((k : Int) < ((1 + t.length : Nat) : Int)) = False := eq_false (by omega)
  rw [List.take_of_length_le (by omega)] at hall
  rw [hs false hall]
  clear ih hs
  generalize hCS : inA 0 :: inA c :: bn t = CS at *
  by_cases h64 : 64 < t.length
  ·have h64' : ((64 : Int) < (t.length : Int)) = True := eq_true (by omega)
   rw [if_neg (by decide),if_pos h64,uZ]
   repeat' (first | (with_reducible refine hY _ ?_;clear hY Y) | ((with_reducible first | refine aX rfl (aR fun K' hK' => aa ?_) | refine hK' _ (ab fun Y hY => aa ?_) | refine ab fun Y hY => aa ?_ | refine ag tk0 b5 (ab fun Y hY => aa ?_) | refine aa ?_ | refine aH ?_);(try clear hK' K');(try dsimp only [aop]);try simp only [go_sem,↓reduceIte,Nat.reduceEqDiff,Nat.reduceLT,Nat.reduceLeDiff,Nat.reduceAdd,Nat.reduceSub,Nat.reduceMul,Nat.reduceBEq,Nat.reduceBNe,Nat.reducePow,Int.reduceToNat,Int.reduceLE,Int.reduceLT,Int.reduceMul,Int.reduceEq,Int.reducePow,Int.reduceAdd,Int.reduceSub,Int.reduceNeg,reduceCtorEq,b5,Tryz.results133,hlt',h64']) | (with_reducible first | refine aI ?_ | refine aP ?_ | refine aS ?_ | refine bi fun K hK => ?_ | refine aD ?_ | refine aC ?_ | refine aO ?_ | refine aQ ?_ | refine ax ?_ | refine aL ?_ | refine ar ?_) | (with_reducible refine hK _ ?_;clear hK K) | ((with_reducible refine ai ?_ ?_);(· decide)))
  ·have h64' : ((64 : Int) < (t.length : Int)) = False := eq_false (by omega)
   rw [if_neg (by decide),if_neg h64,iC]
   repeat' (first | (with_reducible refine hY _ ?_;clear hY Y) | ((with_reducible first | refine aX rfl (aR fun K' hK' => aa ?_) | refine hK' _ (ab fun Y hY => aa ?_) | refine ab fun Y hY => aa ?_ | refine ag tk0 b5 (ab fun Y hY => aa ?_) | refine aa ?_ | refine aH ?_);(try clear hK' K');(try dsimp only [aop]);try simp only [go_sem,↓reduceIte,Nat.reduceEqDiff,Nat.reduceLT,Nat.reduceLeDiff,Nat.reduceAdd,Nat.reduceSub,Nat.reduceMul,Nat.reduceBEq,Nat.reduceBNe,Nat.reducePow,Int.reduceToNat,Int.reduceLE,Int.reduceLT,Int.reduceMul,Int.reduceEq,Int.reducePow,Int.reduceAdd,Int.reduceSub,Int.reduceNeg,reduceCtorEq,b5,Tryz.results133,hlt',h64']) | (with_reducible first | refine aI ?_ | refine aP ?_ | refine aS ?_ | refine bi fun K hK => ?_ | refine aC ?_ | refine aO ?_ | refine ax ?_ | refine av ?_ | refine aL ?_ | refine ar ?_) | (with_reducible refine hK _ ?_;clear hK K) | ((with_reducible refine ai ?_ ?_);(· decide)))
end Go.Proofs.YtmpdocplcgbpkaaGreatDoor
namespace Go.Proofs.YtmpdocplcgbpkaaGreatDoor
set_option linter.unusedSimpArgs false
set_option linter.unusedVariables false
def eR : Nat → List Tm → Nat
 | g,[] => g
 | g,m :: r => eR (Nat.gcd g m.2.natAbs) r
theorem j6 : ∀ (t : List Tm) (g : Nat),eR g t ∣ g ∧ ∀ m ∈ t,eR g t ∣ m.2.natAbs
 | [],g => ⟨Nat.dvd_refl g,fun m hm => absurd hm List.not_mem_nil⟩
 | m :: r,g => by
  obtain ⟨h1,h2⟩ := j6 r (Nat.gcd g m.2.natAbs)
  refine ⟨Nat.dvd_trans h1 (Nat.gcd_dvd_left _ _),fun x hx => ?_⟩
  rcases List.mem_cons.1 hx with rfl | hx
  ·exact Nat.dvd_trans h1 (Nat.gcd_dvd_right _ _)
  ·exact h2 x hx
theorem pd {t : List Tm} {g : Nat} {m : Tm} (hm : m ∈ t) (h : m.2 ≠ 0) : 0 < eR g t := by
 rcases Nat.eq_zero_or_pos (eR g t) with e | e
 ·have := (j6 t g).2 m hm
  rw [e] at this
  have := Nat.eq_zero_of_zero_dvd this
  omega
 ·exact e
theorem y6 (a g : Int) (hg : 1 ≤ g) : -(a.natAbs : Int) ≤ upZ a g ∧ upZ a g ≤ (a.natAbs : Int) := by
 obtain ⟨e0,hr1,hr2⟩ := tdm a g hg
 obtain ⟨b1,b2⟩ := kq a g
 unfold upZ
 by_cases hr : 0 < a.tmod g
 ·rw [if_pos hr]
  have ha : 0 < a := by
   rcases Int.lt_or_le 0 a with h | h
   ·exact h
   ·have h1 := Int.tmod_nonneg g (show 0 ≤ -a by omega)
    rw [Int.neg_tmod] at h1
    omega
  have hq := Int.tdiv_nonneg (show 0 ≤ a by omega) (show 0 ≤ g by omega)
  have hm : a.tdiv g * 1 ≤ a.tdiv g * g := Int.mul_le_mul_of_nonneg_left hg hq
  omega
 ·rw [if_neg hr];omega
def li (g : Int) (t : List Tm) : List Tm := t.map fun m => (m.1,m.2.tdiv g)
theorem iR (g : Int) (t : List Tm) : (li g t).length = t.length := List.length_map ..
theorem sM (g : Int) {t : List Tm} {k : Nat} (h : k < t.length) : li g (t.take (k + 1)) = li g (t.take k) ++ [(t[k].1,t[k].2.tdiv g)] := by
 unfold li
 rw [List.take_succ_eq_append_getElem h,List.map_append];rfl
def iM (l : Ln) : Ln := ⟨upZ l.c (eR 0 l.t : Int),li (eR 0 l.t : Int) l.t⟩
theorem t7 {k : Int} {g : Nat} (hg : 0 < g) (hd : g ∣ k.natAbs) (hk : k ≠ 0) : k.tdiv (g : Int) ≠ 0 ∧ -(k.natAbs : Int) ≤ k.tdiv (g : Int) ∧ k.tdiv (g : Int) ≤ (k.natAbs : Int) := by
 have hb := kq k (g : Int)
 refine ⟨fun e => ?_,hb⟩
 have h1 := Int.natAbs_tdiv k (g : Int)
 rw [e] at h1
 simp only [Int.natAbs_zero,Int.natAbs_natCast] at h1
 obtain ⟨q,hq⟩ := hd
 have h2 : k.natAbs.div g = q := by show k.natAbs / g = q;rw [hq];exact Nat.mul_div_cancel_left q hg
 rw [h2] at h1
 subst h1
 omega
theorem mq {g : Nat} (hg : 0 < g) : ∀ (last : Int) (t : List Tm),(∀ m ∈ t,g ∣ m.2.natAbs) → db last t = true → db last (li (g : Int) t) = true
 | _,[],_,h => h
 | last,m :: r,hd,h => by
  have e : li (g : Int) (m :: r) = (m.1,m.2.tdiv (g : Int)) :: li (g : Int) r := rfl
  rw [e]
  unfold db at h ⊢
  rw [Bool.and_eq_true] at h ⊢
  refine ⟨?_,mq hg _ r (fun x hx => hd x (by simp [hx])) h.2⟩
  have h1 := h.1
  unfold jE ku dc at h1 ⊢
  simp only [Bool.and_eq_true,decide_eq_true_eq,Bool.not_eq_true',decide_eq_false_iff_not] at h1 ⊢
  have := t7 hg (hd m (by simp)) h1.2.2.1
  omega
theorem uY {l : Ln} (h : dg l = true) (hne : l.t ≠ []) : dg (iM l) = true := by
 obtain ⟨⟨c1,c2⟩,h64,hm⟩ := fi h
 have hts : db (-1) l.t = true := by unfold dg at h;simp only [Bool.and_eq_true] at h;exact h.2.2
 have hok := fI _ _ hts
 obtain ⟨m,r,e⟩ := List.exists_cons_of_ne_nil hne
 have hg : 0 < eR 0 l.t := pd (m := m) (by rw [e];simp) (hok m (by rw [e];simp)).2.1
 have hu := y6 l.c (eR 0 l.t : Int) (by omega)
 unfold dg iM
 simp only [Bool.and_eq_true]
 refine ⟨coefB_iff.2 (by omega),?_,mq hg _ _ (j6 _ _).2 hts⟩
 rw [iR];exact decide_eq_true h64
def fT : Fo := .mk 0 ⟨0,[]⟩ []
def fF : Fo := .mk 1 ⟨0,[]⟩ []
def j7 (t : List Tm) : Int := (t.getD 0 (0,0)).2
def fO (l : Ln) : Nat × Fo :=
 if !dg l then (5,fT) else if l.t.length = 0 then (0,if l.c ≤ 0 then fT else fF)
 else if 0 < j7 (iM l).t then (0,.mk 2 (iM l) [])
 else if dc (1 - (iM l).c) then (0,.mk 4 ⟨0,[]⟩ [.mk 2 ⟨1 - (iM l).c,c4 (-1) (iM l).t⟩ []]) else (3,fT)
def mc : Fo → Fo
 | .mk k l ks => if k = 0 then fF else if k = 1 then fT else if k = 4 then ks.headD fT else .mk 4 ⟨0,[]⟩ [.mk k l ks]
def kJ (l : Ln) : Ln := ⟨-l.c,c4 (-1) l.t⟩
def i3 (k : Int) (l : Ln) (no : Bool) : Nat × Fo :=
 if (fO l).1 ≠ 0 then ((fO l).1,fT)
 else if k = 2 then (0,if no then mc (fO l).2 else (fO l).2)
 else if (fO (kJ l)).1 ≠ 0 then ((fO (kJ l)).1,fT)
 else (0,if no then .mk 6 ⟨0,[]⟩ [mc (fO l).2,mc (fO (kJ l)).2] else .mk 5 ⟨0,[]⟩ [(fO l).2,(fO (kJ l)).2])
mutual
def eD : Fo → Bool → Nat × Fo
 | .mk k l ks,no =>
  if k = 2 ∨ k = 3 then i3 k l no
  else if k = 4 then i7 ks (!no)
  else if k = 5 ∨ k = 6 then (if (ed ks no []).1 = 0 then (0,.mk (if no then 11 - k else k) ⟨0,[]⟩ (ed ks no []).2) else ((ed ks no []).1,fT))
  else if no then (0,mc (.mk k l ks)) else (0,.mk k l ks)
def i7 : List Fo → Bool → Nat × Fo
 | [],_ => (0,fT)
 | f :: _,no => eD f no
def ed : List Fo → Bool → List Fo → Nat × List Fo
 | [],_,out => (0,out)
 | f :: r,no,out => if (eD f no).1 = 0 then ed r no (out ++ [(eD f no).2]) else ((eD f no).1,[])
end
end Go.Proofs.YtmpdocplcgbpkaaGreatDoor

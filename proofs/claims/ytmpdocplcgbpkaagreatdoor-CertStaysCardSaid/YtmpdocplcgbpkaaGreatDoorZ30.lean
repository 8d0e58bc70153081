/- Clauses refuted, in K: rup.Check of whatever clauses and steps. A certificate checked, in K: cert.Check. -/
import Derived.Test.YtmpdocplcgbpkaaGreatDoorZ29
import Derived.Test.YtmpdocplcgbpkaaGreatDoorZ8
import Derived.Test.YtmpdocplcgbpkaaGreatDoorZ27
namespace Go.Proofs.YtmpdocplcgbpkaaGreatDoor
set_option linter.unusedSimpArgs false
set_option linter.unusedVariables false
open Go.RowKit
def bK : Nat → List Nat
 | 0 => [0,1,2]
 | 1 => [0,1,2]
 | 2 => [0,1,2,7]
 | 3 => [7]
 | 4 => [0,1,2]
 | 5 => [0,1,2,8]
 | 6 => [0,1,2,8,9]
 | 7 => [9]
 | 8 => [0,1,2,8]
 | 9 => [0,1,8,34,35,36]
 | 10 => [0,1,8,34,35,36]
 | 11 => [0,1,8,10,11,34,35,36]
 | 12 => [0,1,8,10,11,12,34,35,36]
 | 13 => [0,1,8,10,12,34,35,36,41,42,43]
 | 14 => [0,1,8,10,12,34,35,36,41,42,43]
 | 15 => [0,1,8,10,12,14,34,35,36,41,42,43]
 | 16 => [0,1,8,10,12,34,35,36,41,42,43]
 | 17 => [0,1,8,10,12,34,35,36]
 | 18 => [0,1,8,10,16,17,34,35,36]
 | 19 => [10]
 | 20 => [0,1,8,34,35,36]
 | 21 => [8]
 | 22 => []
 | 23 => []
 | _ => []
theorem pN : bx Tryz.prog 44 = true := by kernel_rfl
theorem vU : cK 9 = .ifc 50 (.c (.int .i64 9)) := rfl
theorem vT : cK 8 = .ifc 50 (.c (.int .i64 8)) := rfl
theorem kA (e : Nat) : er e (-1) = cK e := rfl
theorem yi (i : Nat) : er 9 (i : Int) = .ifc 61 (.rf [.c (.int .i64 (i : Int)),.ifc 50 (.c (.int .i64 9))] 0) := by
 unfold er
 rw [if_neg (by omega)];rfl
theorem s9 {c : List Int} {j : Nat} (h : j < c.length) : (kh (c.take (j + 1))).map inA = (kh (c.take j)).map inA ++ [inA (-c[j])] := by
 unfold kh
 rw [List.take_succ_eq_append_getElem h,List.map_append,List.map_append];rfl
theorem xn (n : Int) (cls steps : List (List Int)) : pM n cls steps = if df n cls ≠ 0 then (df n cls,-1) else if df n (cls ++ steps) ≠ 0 then (df n (cls ++ steps),-1)
 else if (ln n.toNat (cls ++ steps) cls.length steps 0).1 ≠ 0 then ln n.toNat (cls ++ steps) cls.length steps 0
 else if (cls ++ steps).any (fun c => decide (c.length = 0)) then (0,-1) else (8,-1) := rfl
set_option maxRecDepth 100000 in
set_option maxHeartbeats 16000000 in
theorem zw (n : Int) (cls steps : List (List Int)) (hL : cls.length + steps.length ≤ 1000000) (hc1 : ∀ c ∈ cls,Lg c) (hc2 : ∀ c ∈ steps,Lg c) :
  AFn Tryz.prog 20 [inA n,csA cls,csA steps] [] (er (pM n cls steps).1 (pM n cls steps).2) [] := by
 have hE := xn n cls steps
 have hp1 := ki n cls (by unfold Lg;omega) hc1
 have hp2 := ki n (cls ++ steps) (by unfold Lg;rw [List.length_append];omega) (fun c hc => (List.mem_append.1 hc).elim (hc1 c) (hc2 c))
 have hcc := sL cls steps hL
 have hal : (cls ++ steps).length = cls.length + steps.length := List.length_append
 by_cases h1 : df n cls ≠ 0
 ·rw [if_pos h1] at hE
  rw [hE]
  simp only
  rw [kA]
  generalize df n cls = e at *
  rw [de h1] at hp1 ⊢
  clear hE
  refine bm [] Tryz.func20 rfl Tryz.ntmps20 (Nat.le_of_ble_eq_true rfl) (Nat.le_of_ble_eq_true rfl) fun w0 G0 B0 Pr hB0 => ?_
  simp only [bD,bj,List.cons_append,List.nil_append]
  repeat' (first | (with_reducible refine hY _ ?_;clear hY Y) | ((with_reducible first | refine aX rfl (aR fun K' hK' => aa ?_) | refine hK' _ (ab fun Y hY => aa ?_) | refine ab fun Y hY => aa ?_ | refine ag tk0 bK (ab fun Y hY => aa ?_) | refine aa ?_ | refine aH ?_);(try clear hK' K');(try dsimp only [aop]);try simp only [go_sem,↓reduceIte,Nat.reduceEqDiff,Nat.reduceLT,Nat.reduceLeDiff,Nat.reduceAdd,Nat.reduceSub,Nat.reduceMul,Nat.reduceBEq,Nat.reduceBNe,Nat.reducePow,Int.reduceToNat,Int.reduceLE,Int.reduceLT,Int.reduceMul,Int.reduceEq,Int.reducePow,Int.reduceAdd,Int.reduceSub,Int.reduceNeg,reduceCtorEq,bK,Tryz.results20]) | (with_reducible first | refine aI ?_ | refine aP ?_ | refine aS ?_ | refine bi fun K hK => ?_ | refine aD ?_ | refine aQ ?_ | refine aL ?_) | (with_reducible refine hK _ ?_;clear hK K) | ((with_reducible refine ai ?_ ?_);(· decide)) | (with_reducible refine aK (hp1) ?_))
 rw [if_neg h1] at hE
 rw [Decidable.not_not] at h1
 rw [h1,dh] at hp1
 by_cases h2 : df n (cls ++ steps) ≠ 0
 ·rw [if_pos h2] at hE
  rw [hE]
  simp only
  rw [kA]
  generalize df n (cls ++ steps) = e at *
  rw [de h2] at hp2 ⊢
  generalize cls ++ steps = all at *
  clear hE
  refine bm [] Tryz.func20 rfl Tryz.ntmps20 (Nat.le_of_ble_eq_true rfl) (Nat.le_of_ble_eq_true rfl) fun w0 G0 B0 Pr hB0 => ?_
  simp only [bD,bj,List.cons_append,List.nil_append]
  repeat' (first | (with_reducible refine hY _ ?_;clear hY Y) | ((with_reducible first | refine aX rfl (aR fun K' hK' => aa ?_) | refine hK' _ (ab fun Y hY => aa ?_) | refine ab fun Y hY => aa ?_ | refine ag tk0 bK (ab fun Y hY => aa ?_) | refine aa ?_ | refine aH ?_);(try clear hK' K');(try dsimp only [aop]);try simp only [go_sem,↓reduceIte,Nat.reduceEqDiff,Nat.reduceLT,Nat.reduceLeDiff,Nat.reduceAdd,Nat.reduceSub,Nat.reduceMul,Nat.reduceBEq,Nat.reduceBNe,Nat.reducePow,Int.reduceToNat,Int.reduceLE,Int.reduceLT,Int.reduceMul,Int.reduceEq,Int.reducePow,Int.reduceAdd,Int.reduceSub,Int.reduceNeg,reduceCtorEq,bK,Tryz.results20]) | (with_reducible first | refine aI ?_ | refine aP ?_ | refine aS ?_ | refine bi fun K hK => ?_ | refine aD ?_ | refine aC ?_ | refine aQ ?_ | refine av ?_ | refine aL ?_) | (with_reducible refine hK _ ?_;clear hK K) | ((with_reducible refine ai ?_ ?_);(· decide)) | (with_reducible refine aK (hp1) ?_) | (with_reducible refine aK (hcc) ?_) | (with_reducible refine aK (hp2) ?_) | (with_reducible refine ce (cu) ?_))
 rw [if_neg h2] at hE
 rw [Decidable.not_not] at h2
 rw [h2,dh] at hp2
 obtain ⟨⟨hn0,hn1⟩,hcl,hsum,hlits⟩ := jW h2
 have hch := fun k => oW h2 k
 have hsb : ∀ c ∈ steps,c.length ≤ 131072 := fun c hc => Nat.le_trans (gX (List.mem_append.2 (.inr hc))) hsum
 have hst : ∀ c ∈ steps,∀ l ∈ c,OkL n.toNat l := fun c hc => hlits c (List.mem_append.2 (.inr hc))
 have hfo := fun (k i : Nat) (hi : i < steps.length) => uk n.toNat ((cls ++ steps).take k) (kh steps[i]) (by rw [show ((n.toNat : Nat) : Int) = n by omega];exact hch k) (w2 (hst _ (List.getElem_mem hi))) (by
  have : steps[i].length ≤ eZ (cls ++ steps) := gX (List.mem_append.2 (.inr (List.getElem_mem hi)))
  unfold kh;rw [List.length_map];omega)
 rw [show ((n.toNat : Nat) : Int) = n by omega] at hfo
 have hro := yr (cls ++ steps) 44 (fun c => decide (c.length = 0)) pN (by unfold Lg;omega) fun y _ => yW y
 have hr1 := pN
 have hR0 : ln n.toNat (cls ++ steps) cls.length (steps.drop 0) 0 = ln n.toNat (cls ++ steps) cls.length steps 0 := by rw [List.drop_zero]
 generalize ln n.toNat (cls ++ steps) cls.length steps 0 = R at *
 generalize hAll : cls ++ steps = all at *
 clear h1 h2 hch hsum hlits hc1
 generalize hX : pM n cls steps = X at *
 refine bm [] Tryz.func20 rfl Tryz.ntmps20 (Nat.le_of_ble_eq_true rfl) (Nat.le_of_ble_eq_true rfl) fun w0 G0 B0 Pr hB0 => ?_
 simp only [bD,bj,List.cons_append,List.nil_append]
 repeat' (first | (with_reducible refine hY _ ?_;clear hY Y) | ((with_reducible first | refine aX rfl (aR fun K' hK' => aa ?_) | refine hK' _ (ab fun Y hY => aa ?_) | refine ab fun Y hY => aa ?_ | refine ag tk0 bK (ab fun Y hY => aa ?_) | refine aa ?_);(try clear hK' K');(try dsimp only [aop]);try simp only [go_sem,↓reduceIte,Nat.reduceEqDiff,Nat.reduceLT,Nat.reduceLeDiff,Nat.reduceAdd,Nat.reduceSub,Nat.reduceMul,Nat.reduceBEq,Nat.reduceBNe,Nat.reducePow,Int.reduceToNat,Int.reduceLE,Int.reduceLT,Int.reduceMul,Int.reduceEq,Int.reducePow,Int.reduceAdd,Int.reduceSub,Int.reduceNeg,reduceCtorEq,bK,Tryz.results20]) | (with_reducible first | refine aI ?_ | refine aP ?_ | refine aS ?_ | refine bi fun K hK => ?_ | refine aC ?_ | refine ah ?_ | refine av ?_ | refine au ?_) | (with_reducible refine hK _ ?_;clear hK K) | ((with_reducible refine ai ?_ ?_);(· decide)) | (with_reducible refine aK (hp1) ?_) | (with_reducible refine aK (hcc) ?_) | (with_reducible refine aK (hp2) ?_) | (with_reducible refine ce (cu) ?_))
 clear hp1 hp2 hcc
 refine b7 (α := Nat) (fun i => [(0,inA n),(1,csA cls),(8,csA all),(34,csA steps),(35,inA (steps.length : Int)),(36,inA (i : Int))])
  (fun i => i ≤ steps.length ∧ ln n.toNat all cls.length (steps.drop i) i = R) (fun i => steps.length - i) 0 [0,1,8,34,35,36] ?_ ⟨Nat.zero_le _,hR0⟩ ?_
 ·simp only [go_sem,↓reduceIte,Nat.reduceEqDiff,Nat.reduceLT,Nat.reduceLeDiff,Nat.reduceAdd,Nat.reduceSub,Nat.reduceMul,Nat.reduceBEq,Nat.reduceBNe,Nat.reducePow,Int.reduceToNat,Int.reduceLE,Int.reduceLT,Int.reduceMul,Int.reduceEq,Int.reducePow,Int.reduceAdd,Int.reduceSub,Int.reduceNeg,reduceCtorEq] <;> rfl
 clear hR0
 rintro i ⟨hi,hRi⟩ ih
 by_cases hlt : i < steps.length
 ·have hlt' : ((i : Int) < (steps.length : Int)) = True := eq_true (by omega)
  have hkw := cC (n := i) (by omega)
  have hg0 := jz hlt
  have hfl : (steps.map di).length = steps.length := List.length_map ..
  have hfl2 : (all.map di).length = all.length := List.length_map ..
  have hF := hfo (cls.length + i) i hlt
  have hscl := hsb _ (List.getElem_mem hlt)
  have hsl := hst _ (List.getElem_mem hlt)
  rw [th hlt] at hRi
  have ihx := fun e => ih (i + 1) ⟨by omega,e⟩ (by omega)
  clear ih hfo hst hc2 hsb
  have hm : (all.take (cls.length + i)).length = cls.length + i := by rw [List.length_take];omega
  have hmm : (all.take (cls.length + i)).map di = (all.map di).take (cls.length + i) := List.map_take
  have hwa := eH (a := cls.length) (b := i) (by omega)
  have hmi : ((cls.length + i : Nat) : Int).toNat = cls.length + i := Int.toNat_natCast _
  have hle : (((cls.length + i : Nat) : Int) ≤ (all.length : Int)) = True := eq_true (by omega)
  simp only [csA] at hF
  rw [hm,hmm] at hF
  generalize jh n.toNat (all.take (cls.length + i)) (kh steps[i]) = Q at *
  generalize steps[i] = c at *
  have hoc : (kh c).length = c.length := List.length_map ..
  simp only [di] at hF
  rw [hoc] at hF
  generalize cls.length + i = m at *
  repeat' (first | (with_reducible refine hY _ ?_;clear hY Y) | ((with_reducible first | refine aX rfl (aR fun K' hK' => aa ?_) | refine hK' _ (ab fun Y hY => aa ?_) | refine ab fun Y hY => aa ?_ | refine ag tk0 bK (ab fun Y hY => aa ?_));(try clear hK' K');(try dsimp only [aop]);try simp only [go_sem,↓reduceIte,Nat.reduceEqDiff,Nat.reduceLT,Nat.reduceLeDiff,Nat.reduceAdd,Nat.reduceSub,Nat.reduceMul,Nat.reduceBEq,Nat.reduceBNe,Nat.reducePow,Int.reduceToNat,Int.reduceLE,Int.reduceLT,Int.reduceMul,Int.reduceEq,Int.reducePow,Int.reduceAdd,Int.reduceSub,Int.reduceNeg,reduceCtorEq,bK,Tryz.results20,hlt',hg0,hfl]) | (with_reducible first | refine aI ?_ | refine aP ?_ | refine aS ?_ | refine bi fun K hK => ?_ | refine aD ?_ | refine ah ?_ | refine av ?_ | refine au ?_) | (with_reducible refine hK _ ?_;clear hK K) | ((with_reducible refine ai ?_ ?_);(· decide)) | (with_reducible refine aV ?_ ?_;(· (try and_intros) <;> first | omega | assumption | (simp only [List.length_append,List.length_map,List.length_cons,List.length_nil] <;> omega))))
  refine d5 (gv (b := 10051) (t := 12) 3 (by decide) (by decide) rfl rfl) ?_
  refine b7 (α := Nat) (fun j => [(0,inA n),(1,csA cls),(8,csA all),(10,inA (i : Int)),(12,.sl ((kh (c.take j)).map inA) j (.tok 10051)),(34,csA steps),(35,inA (steps.length : Int)),(36,inA (i : Int)),(41,di c),(42,inA (c.length : Int)),(43,inA (j : Int)),(10051,.bt j 3)])
   (fun j => j ≤ c.length) (fun j => c.length - j) 0 [0,1,8,10,12,34,35,36,41,42,43] ?_ (Nat.zero_le _) ?_
  ·simp only [go_sem,↓reduceIte,Nat.reduceEqDiff,Nat.reduceLT,Nat.reduceLeDiff,Nat.reduceAdd,Nat.reduceSub,Nat.reduceMul,Nat.reduceBEq,Nat.reduceBNe,Nat.reducePow,Int.reduceToNat,Int.reduceLE,Int.reduceLT,Int.reduceMul,Int.reduceEq,Int.reducePow,Int.reduceAdd,Int.reduceSub,Int.reduceNeg,reduceCtorEq] <;> rfl
  intro j hj ihj
  by_cases hjl : j < c.length
  ·have hjl' : ((j : Int) < (c.length : Int)) = True := eq_true (by omega)
   have hjw := cC (n := j) (by omega)
   have hgj := mZ hjl
   have hcl2 : (c.map inA).length = c.length := List.length_map ..
   have hzl := hsl _ (List.getElem_mem hjl)
   have hng : IntKind.i64.wrap (0 - c[j]) = -c[j] := by rw [bQ (by have := hzl.2;omega) (by have := hzl.2;omega)];omega
   have hng2 : IntKind.i64.wrap (-c[j]) = -c[j] := bQ (by have := hzl.2;omega) (by have := hzl.2;omega)
   have hol : ((kh (c.take j)).map inA).length = j := by rw [List.length_map];unfold kh;rw [List.length_map,List.length_take];omega
   have ih' := ihj (j + 1) (by omega) (by omega)
   rw [s9 hjl] at ih'
   clear ihj ihx hF hsl
   generalize (kh (c.take j)).map inA = O at *
   generalize c[j] = z at *
   repeat' (first | (with_reducible refine hY _ ?_;clear hY Y) | ((with_reducible first | refine aX rfl (aR fun K' hK' => aa ?_) | refine hK' _ (ab fun Y hY => aa ?_) | refine ab fun Y hY => aa ?_ | refine ag tk0 bK (ab fun Y hY => aa ?_));(try clear hK' K');(try dsimp only [aop]);try simp only [go_sem,↓reduceIte,Nat.reduceEqDiff,Nat.reduceLT,Nat.reduceLeDiff,Nat.reduceAdd,Nat.reduceSub,Nat.reduceMul,Nat.reduceBEq,Nat.reduceBNe,Nat.reducePow,Int.reduceToNat,Int.reduceLE,Int.reduceLT,Int.reduceMul,Int.reduceEq,Int.reducePow,Int.reduceAdd,Int.reduceSub,Int.reduceNeg,reduceCtorEq,bK,Tryz.results20,hjl',hgj,hcl2,hng,hng2,hol,hjw]) | (with_reducible first | refine aI ?_ | refine aP ?_ | refine aS ?_ | refine bi fun K hK => ?_ | refine aD ?_ | refine ay ?_ | refine ah ?_ | refine av ?_) | (with_reducible refine hK _ ?_;clear hK K) | ((with_reducible refine ai ?_ ?_);(· decide)) | (with_reducible refine aV ?_ ?_;(· (try and_intros) <;> first | omega | assumption | (simp only [List.length_append,List.length_map,List.length_cons,List.length_nil] <;> omega))))
   refine bO [0,1,8,10,12,34,35,36,41,42,43] (by simp only [go_sem,↓reduceIte,Nat.reduceEqDiff,Nat.reduceLT,Nat.reduceLeDiff,Nat.reduceAdd,Nat.reduceSub,Nat.reduceMul,Nat.reduceBEq,Nat.reduceBNe,Nat.reducePow,Int.reduceToNat,Int.reduceLE,Int.reduceLT,Int.reduceMul,Int.reduceEq,Int.reducePow,Int.reduceAdd,Int.reduceSub,Int.reduceNeg,reduceCtorEq];exact rfl) ?_
   exact ih'
  ·have hjl' : ((j : Int) < (c.length : Int)) = False := eq_false (by omega)
   obtain rfl : j = c.length := by omega
   rw [List.take_of_length_le (by omega)]
   clear ihj
   obtain ⟨b,s⟩ := Q
   obtain ⟨a,pre,q,v⟩ := s
   cases b with
   | true =>
    rw [if_pos rfl] at hRi
    obtain rfl : R = (9,(i : Int)) := hRi.symm
    rw [if_pos (show (9 : Nat) ≠ 0 by decide)] at hE
    rw [hE]
    simp only
    rw [yi]
    rw [mW] at hF
    clear ihx hE hX
    repeat' (first | (with_reducible refine hY _ ?_;clear hY Y) | ((with_reducible first | refine aX rfl (aR fun K' hK' => aa ?_) | refine hK' _ (ab fun Y hY => aa ?_) | refine aW rfl (ab fun Y hY => aa ?_) | refine ab fun Y hY => aa ?_ | refine aR fun K' hK' => aa ?_ | refine ag tk0 bK (ab fun Y hY => aa ?_) | refine aa ?_ | refine aH ?_);(try clear hK' K');(try dsimp only [aop]);try simp only [go_sem,↓reduceIte,Nat.reduceEqDiff,Nat.reduceLT,Nat.reduceLeDiff,Nat.reduceAdd,Nat.reduceSub,Nat.reduceMul,Nat.reduceBEq,Nat.reduceBNe,Nat.reducePow,Int.reduceToNat,Int.reduceLE,Int.reduceLT,Int.reduceMul,Int.reduceEq,Int.reducePow,Int.reduceAdd,Int.reduceSub,Int.reduceNeg,reduceCtorEq,bK,Tryz.results20,hjl',hwa,hmi,hle]) | (with_reducible first | refine aI ?_ | refine ao ?_ | refine aP ?_ | refine aS ?_ | refine bi fun K hK => ?_ | refine aD ?_ | refine aC ?_ | refine aO ?_ | refine aQ ?_ | refine aA ?_ | refine ax ?_ | refine aL ?_ | refine ar ?_) | (with_reducible refine hK _ ?_;clear hK K) | ((with_reducible first | refine aF ?_ ?_ | refine ai ?_ ?_);(· decide)) | (with_reducible refine aV ?_ ?_;(· (try and_intros) <;> first | omega | assumption | (simp only [List.length_append,List.length_map,List.length_cons,List.length_nil] <;> omega))) | (with_reducible refine aK (dd hF ?_) ?_;(· simp [c6])) | (with_reducible refine ce (cu) ?_))
   | false =>
    rw [if_neg (by simp)] at hRi
    rw [jg] at hF
    have ih' := ihx hRi
    clear ihx
    repeat' (first | (with_reducible refine hY _ ?_;clear hY Y) | ((with_reducible first | refine aX rfl (aR fun K' hK' => aa ?_) | refine hK' _ (ab fun Y hY => aa ?_) | refine aW rfl (ab fun Y hY => aa ?_) | refine ab fun Y hY => aa ?_ | refine aR fun K' hK' => aa ?_ | refine ag tk0 bK (ab fun Y hY => aa ?_) | refine aa ?_);(try clear hK' K');(try dsimp only [aop]);try simp only [go_sem,↓reduceIte,Nat.reduceEqDiff,Nat.reduceLT,Nat.reduceLeDiff,Nat.reduceAdd,Nat.reduceSub,Nat.reduceMul,Nat.reduceBEq,Nat.reduceBNe,Nat.reducePow,Int.reduceToNat,Int.reduceLE,Int.reduceLT,Int.reduceMul,Int.reduceEq,Int.reducePow,Int.reduceAdd,Int.reduceSub,Int.reduceNeg,reduceCtorEq,bK,Tryz.results20,hjl',hwa,hmi,hle,hkw]) | (with_reducible first | refine aI ?_ | refine ao ?_ | refine aP ?_ | refine aS ?_ | refine bi fun K hK => ?_ | refine aC ?_ | refine aO ?_ | refine ay ?_ | refine ax ?_ | refine av ?_ | refine ar ?_) | (with_reducible refine hK _ ?_;clear hK K) | ((with_reducible first | refine aF ?_ ?_ | refine ai ?_ ?_);(· decide)) | (with_reducible refine aV ?_ ?_;(· (try and_intros) <;> first | omega | assumption | (simp only [List.length_append,List.length_map,List.length_cons,List.length_nil] <;> omega))) | (with_reducible refine aK (dd hF ?_) ?_;(· simp [c6])) | (with_reducible refine ce (cu) ?_))
    refine bO [0,1,8,34,35,36] (by simp only [go_sem,↓reduceIte,Nat.reduceEqDiff,Nat.reduceLT,Nat.reduceLeDiff,Nat.reduceAdd,Nat.reduceSub,Nat.reduceMul,Nat.reduceBEq,Nat.reduceBNe,Nat.reducePow,Int.reduceToNat,Int.reduceLE,Int.reduceLT,Int.reduceMul,Int.reduceEq,Int.reducePow,Int.reduceAdd,Int.reduceSub,Int.reduceNeg,reduceCtorEq];exact rfl) ?_
    exact ih'
 ·have hlt' : ((i : Int) < (steps.length : Int)) = False := eq_false (by omega)
  rw [List.drop_eq_nil_of_le (by omega)] at hRi
  obtain rfl : R = (0,-1) := hRi.symm
  rw [if_neg (by decide)] at hE
  rw [hE]
  clear ih hfo hst hE hX
  generalize all.any (fun c => decide (c.length = 0)) = B at *
  cases B with
  | true =>
   rw [if_pos rfl]
   have e0 : er ((0,-1) : Nat × Int).1 ((0,-1) : Nat × Int).2 = .c .nilIface := rfl
   rw [e0]
   repeat' (first | (with_reducible refine hY _ ?_;clear hY Y) | ((with_reducible first | refine aX rfl (aR fun K' hK' => aa ?_) | refine hK' _ (ab fun Y hY => aa ?_) | refine ab fun Y hY => aa ?_ | refine ag tk0 bK (ab fun Y hY => aa ?_) | refine aa ?_ | refine aH ?_);(try clear hK' K');(try dsimp only [aop]);try simp only [go_sem,↓reduceIte,Nat.reduceEqDiff,Nat.reduceLT,Nat.reduceLeDiff,Nat.reduceAdd,Nat.reduceSub,Nat.reduceMul,Nat.reduceBEq,Nat.reduceBNe,Nat.reducePow,Int.reduceToNat,Int.reduceLE,Int.reduceLT,Int.reduceMul,Int.reduceEq,Int.reducePow,Int.reduceAdd,Int.reduceSub,Int.reduceNeg,reduceCtorEq,bK,Tryz.results20,hlt',hr1]) | (with_reducible first | refine aI ?_ | refine aP ?_ | refine aS ?_ | refine bi fun K hK => ?_ | refine aC ?_ | refine aO ?_ | refine ax ?_ | refine av ?_ | refine aL ?_ | refine ar ?_) | (with_reducible refine hK _ ?_;clear hK K) | ((with_reducible refine ai ?_ ?_);(· decide)) | (with_reducible refine aK (hro) ?_))
  | false =>
   rw [if_neg (by decide)]
   simp only
   rw [kA,vT]
   repeat' (first | (with_reducible refine hY _ ?_;clear hY Y) | ((with_reducible first | refine aX rfl (aR fun K' hK' => aa ?_) | refine hK' _ (ab fun Y hY => aa ?_) | refine ab fun Y hY => aa ?_ | refine ag tk0 bK (ab fun Y hY => aa ?_) | refine aa ?_ | refine aH ?_);(try clear hK' K');(try dsimp only [aop]);try simp only [go_sem,↓reduceIte,Nat.reduceEqDiff,Nat.reduceLT,Nat.reduceLeDiff,Nat.reduceAdd,Nat.reduceSub,Nat.reduceMul,Nat.reduceBEq,Nat.reduceBNe,Nat.reducePow,Int.reduceToNat,Int.reduceLE,Int.reduceLT,Int.reduceMul,Int.reduceEq,Int.reducePow,Int.reduceAdd,Int.reduceSub,Int.reduceNeg,reduceCtorEq,bK,Tryz.results20,hlt',hr1]) | (with_reducible first | refine aI ?_ | refine aP ?_ | refine aS ?_ | refine bi fun K hK => ?_ | refine aD ?_ | refine aC ?_ | refine aO ?_ | refine aQ ?_ | refine ax ?_ | refine aL ?_ | refine ar ?_) | (with_reducible refine hK _ ?_;clear hK K) | ((with_reducible refine ai ?_ ?_);(· decide)) | (with_reducible refine aK (hro) ?_))
end Go.Proofs.YtmpdocplcgbpkaaGreatDoor
namespace Go.Proofs.YtmpdocplcgbpkaaGreatDoor
set_option linter.unusedSimpArgs false
set_option linter.unusedVariables false
open Go.RowKit
theorem sg (cs : List (List Int)) (k : Nat) : (cs.map di).map (wkD (k + 1)) = cs.map di := by
 rw [List.map_map]
 refine List.map_congr_left fun c _ => ?_
 show AV.sl ((c.map inA).map (wkD k)) c.length .none = _
 have h : (c.map inA).map (wkD k) = c.map inA := by
  rw [List.map_map]
  exact List.map_congr_left fun x _ => by cases k <;> rfl
 rw [h]
abbrev ke (ms : List Lem) : List AV := ms.map fun l => di l.lits
theorem sZ {ms : List Lem} {i : Nat} (h : i < ms.length) : ke (ms.take (i + 1)) = ke (ms.take i) ++ [di ms[i].lits] := by
 unfold ke
 rw [List.take_succ_eq_append_getElem h,List.map_append];rfl
theorem wT (ms : List Lem) : ke ms = (ms.map (·.lits)).map di := by rw [List.map_map];rfl
theorem tY (f : Fo) (c : Crt) : jy f c = if (du f).1 ≠ 0 then ((du f).1,-1)
 else if (dR (du f).2).1 ≠ 0 then ((dR (du f).2).1,-1)
 else if 4096 < c.lems.length then (2,-1)
 else if (iH (dR (du f).2).2.2.1 c.lems 0).1 ≠ 0 then iH (dR (du f).2).2.2.1 c.lems 0
 else pM (dR (du f).2).2.1 ((dR (du f).2).2.2.2 ++ c.lems.map (·.lits)) c.refute := rfl
theorem yV {e : Nat} (h : e ≠ 0) (n : Int) (ls : List Ln) (cs : List (List Int)) : pK (e,n,ls,cs) = .tup [.agg [inA n,.sl (ls.flatMap lnA) ls.length .none,.sl (cs.map di) cs.length .none],.ifc 50 (.c (.int .i64 (e : Int)))] := by
 unfold pK
 rw [de h]
theorem vW {e : Nat} (h : e ≠ 0) (i : Nat) : er e (i : Int) = .ifc 61 (.rf [.c (.int .i64 (i : Int)),.ifc 50 (.c (.int .i64 (e : Int)))] 0) := by
 unfold er
 rw [if_neg (by omega)]
 unfold hI
 rw [de h]
theorem xi (g : List (Nat × Nat)) (e : Nat) (z : Int) : ren g 4 (er e z) = er e z := by
 unfold er
 split
 ·exact pI g 2 e
 ·unfold hI
  rfl
theorem v7 (ex : List Nat) (σ : bT) (e : Nat) (z : Int) : eQ ex σ 8 (er e z) = er e z := by
 unfold er
 split
 ·unfold cK
  split <;> rfl
 ·unfold hI cK
  rfl
def bR : Nat → List Nat
 | 0 => [0,1]
 | 1 => [2,3]
 | 2 => [3,5,6]
 | 3 => [6]
 | 4 => [3,5]
 | 5 => [3,6,7]
 | 6 => [6]
 | 7 => [3,7]
 | 8 => []
 | 9 => [3,7]
 | 10 => [3,7,8]
 | 11 => [3,7,8,38,39,40]
 | 12 => [3,7,8,38,39,40]
 | 13 => [3,7,8,9,10,38,39,40]
 | 14 => [3,7,8,9,10,11,38,39,40]
 | 15 => [9,11]
 | 16 => [3,7,8,10,38,39,40]
 | 17 => [3,7,8,38,39,40]
 | 18 => [3,7,8]
 | _ => []
set_option maxRecDepth 100000 in
set_option maxHeartbeats 16000000 in
theorem qs (f : Fo) (c : Crt) (hok : OkF f) (hl : ∀ l ∈ c.lems,l.lits.length ≤ 100000 ∧ oM l.steps) (h1 : c.lems.length ≤ 100000) (h2 : c.refute.length ≤ 100000) (h3 : ∀ r ∈ c.refute,Lg r) :
  AFn Tryz.prog 8 [.agg (foA f),.agg [gV c.lems,csA c.refute]] [] (er (jy f c).1 (jy f c).2) [] := by
 obtain ⟨ms,rs⟩ := c
 simp only at hl h1 h2 h3
 have hE := tY f ⟨ms,rs⟩
 simp only at hE
 have hn := s8 f hok
 have hokn := pr hok
 generalize jy f ⟨ms,rs⟩ = X at *
 generalize du f = q at *
 obtain ⟨e,n⟩ := q
 obtain ⟨fk,⟨fc,ft⟩,fks⟩ := f
 rw [cZ] at hn ⊢
 clear hok
 simp only at hE hokn
 by_cases he : e ≠ 0
 ·rw [if_pos he] at hE
  rw [hE]
  simp only
  rw [kA,de he]
  unfold gu at hn
  rw [de he] at hn
  clear hE hokn
  obtain ⟨nk,⟨nc,nt⟩,nks⟩ := n
  simp only [cZ] at hn
  refine bm [] Tryz.func8 rfl Tryz.ntmps8 (Nat.le_of_ble_eq_true rfl) (Nat.le_of_ble_eq_true rfl) fun w0 G0 B0 Pr hB0 => ?_
  simp only [bD,bj,List.cons_append,List.nil_append]
  repeat' (first | (with_reducible refine hY _ ?_;clear hY Y) | ((with_reducible first | refine aX rfl (aR fun K' hK' => aa ?_) | refine hK' _ (ab fun Y hY => aa ?_) | refine ab fun Y hY => aa ?_ | refine ag tk0 bR (ab fun Y hY => aa ?_) | refine aa ?_ | refine aH ?_);(try clear hK' K');(try dsimp only [aop]);try simp only [go_sem,↓reduceIte,Nat.reduceEqDiff,Nat.reduceLT,Nat.reduceLeDiff,Nat.reduceAdd,Nat.reduceSub,Nat.reduceMul,Nat.reduceBEq,Nat.reduceBNe,Nat.reducePow,Int.reduceToNat,Int.reduceLE,Int.reduceLT,Int.reduceMul,Int.reduceEq,Int.reducePow,Int.reduceAdd,Int.reduceSub,Int.reduceNeg,reduceCtorEq,bR,Tryz.results8]) | (with_reducible first | refine aI ?_ | refine aP ?_ | refine aS ?_ | refine bi fun K hK => ?_ | refine aD ?_ | refine aQ ?_ | refine aL ?_) | (with_reducible refine hK _ ?_;clear hK K) | ((with_reducible refine ai ?_ ?_);(· decide)) | (with_reducible refine aK (hn) ?_))
 rw [if_neg he] at hE
 rw [Decidable.not_not] at he
 subst he
 unfold gu at hn
 rw [dh] at hn
 have hF := wV n hokn
 have hT := wW n hokn
 have h0 := oh (f := n)
 have ha := po (f := n)
 generalize dR n = q at *
 generalize ne n = W at *
 obtain ⟨e,N,ls,cls⟩ := q
 simp only at hE hF hT h0 ha
 clear hokn
 obtain ⟨nk,⟨nc,nt⟩,nks⟩ := n
 simp only [cZ] at hn hF hT
 by_cases he : e ≠ 0
 ·rw [if_pos he] at hE
  rw [hE]
  simp only
  rw [kA,de he]
  rw [yV he] at hF
  clear hE hT h0 ha
  refine bm [] Tryz.func8 rfl Tryz.ntmps8 (Nat.le_of_ble_eq_true rfl) (Nat.le_of_ble_eq_true rfl) fun w0 G0 B0 Pr hB0 => ?_
  simp only [bD,bj,List.cons_append,List.nil_append]
  repeat' (first | (with_reducible refine hY _ ?_;clear hY Y) | ((with_reducible first | refine aX rfl (aR fun K' hK' => aa ?_) | refine hK' _ (ab fun Y hY => aa ?_) | refine ab fun Y hY => aa ?_ | refine ag tk0 bR (ab fun Y hY => aa ?_) | refine aa ?_ | refine aH ?_);(try clear hK' K');(try dsimp only [aop]);try simp only [go_sem,↓reduceIte,Nat.reduceEqDiff,Nat.reduceLT,Nat.reduceLeDiff,Nat.reduceAdd,Nat.reduceSub,Nat.reduceMul,Nat.reduceBEq,Nat.reduceBNe,Nat.reducePow,Int.reduceToNat,Int.reduceLE,Int.reduceLT,Int.reduceMul,Int.reduceEq,Int.reducePow,Int.reduceAdd,Int.reduceSub,Int.reduceNeg,reduceCtorEq,bR,Tryz.results8]) | (with_reducible first | refine aI ?_ | refine aP ?_ | refine aS ?_ | refine bi fun K hK => ?_ | refine aD ?_ | refine aC ?_ | refine aQ ?_ | refine aA ?_ | refine ah ?_ | refine av ?_ | refine aL ?_) | (with_reducible refine hK _ ?_;clear hK K) | ((with_reducible refine ai ?_ ?_);(· decide)) | (with_reducible refine aK (hn) ?_) | (with_reducible refine ce (cu) ?_) | (with_reducible refine aK (hF) ?_))
 rw [if_neg he] at hE
 rw [Decidable.not_not] at he
 have hT2 := hT he
 clear hT
 obtain ⟨_,_,_,hcls,hN,hP⟩ := h0 he
 obtain ⟨ha1,ha2⟩ := ha he
 clear h0 ha hF
 subst he
 by_cases hm : 4096 < ms.length
 ·rw [if_pos hm] at hE
  rw [hE]
  simp only
  rw [kA,gG]
  have hm' : ((4096 : Int) < (ms.length : Int)) = True := eq_true (by omega)
  clear hE
  refine bm [] Tryz.func8 rfl Tryz.ntmps8 (Nat.le_of_ble_eq_true rfl) (Nat.le_of_ble_eq_true rfl) fun w0 G0 B0 Pr hB0 => ?_
  simp only [bD,bj,List.cons_append,List.nil_append]
  repeat' (first | (with_reducible refine hY _ ?_;clear hY Y) | ((with_reducible first | refine aX rfl (aR fun K' hK' => aa ?_) | refine hK' _ (ab fun Y hY => aa ?_) | refine ab fun Y hY => aa ?_ | refine ag tk0 bR (ab fun Y hY => aa ?_) | refine aa ?_ | refine aH ?_);(try clear hK' K');(try dsimp only [aop]);try simp only [go_sem,↓reduceIte,Nat.reduceEqDiff,Nat.reduceLT,Nat.reduceLeDiff,Nat.reduceAdd,Nat.reduceSub,Nat.reduceMul,Nat.reduceBEq,Nat.reduceBNe,Nat.reducePow,Int.reduceToNat,Int.reduceLE,Int.reduceLT,Int.reduceMul,Int.reduceEq,Int.reducePow,Int.reduceAdd,Int.reduceSub,Int.reduceNeg,reduceCtorEq,bR,Tryz.results8,hm']) | (with_reducible first | refine aI ?_ | refine aP ?_ | refine aS ?_ | refine bi fun K hK => ?_ | refine aD ?_ | refine aC ?_ | refine aQ ?_ | refine aA ?_ | refine ah ?_ | refine av ?_ | refine aL ?_) | (with_reducible refine hK _ ?_;clear hK K) | ((with_reducible refine ai ?_ ?_);(· decide)) | (with_reducible refine aK (hn) ?_) | (with_reducible refine ce (cu) ?_) | (with_reducible refine aK (hT2) ?_))
 rw [if_neg hm] at hE
 have hm' : ((4096 : Int) < (ms.length : Int)) = False := eq_false (by omega)
 have hR0 : iH ls (ms.drop 0) 0 = iH ls ms 0 := by rw [List.drop_zero]
 generalize iH ls ms 0 = R at *
 obtain ⟨⟨hn0,hn1⟩,hcl,hsum,hlits⟩ := jW hP
 have hWl : W.length = cls.length := by rw [hcls,List.length_map]
 have hlf := kd ms
 have hru := zw N (cls ++ ms.map (·.lits)) rs (by rw [List.length_append,List.length_map];omega) (fun c hc => by
  unfold Lg
  rcases List.mem_append.1 hc with h | h
  ·have : c.length ≤ eZ cls := gX h
   omega
  ·obtain ⟨m,hm,rfl⟩ := List.mem_map.1 h
   have := (hl m hm).1
   omega) h3
 have hru' : ∀ x,pM N (cls ++ ms.map (·.lits)) rs = x → AFn Tryz.prog 20 [inA N,.sl (W.map et ++ ke ms) (W.length + ms.length) .none,csA rs] [] (er x.1 x.2) [] := fun x hx => by
  rw [hx] at hru
  refine gN 2 hru ?_
  have q1 : (W.map et).map (wkD 1) = cls.map di := by rw [kl,← hcls]
  have q2 : (ke ms).map (wkD 1) = (ms.map (·.lits)).map di := by rw [wT];exact sg _ 0
  have q3 : (rs.map di).map (wkD 1) = rs.map di := sg _ 0
  have q4 : wkD 2 (.sl (W.map et ++ ke ms) (W.length + ms.length) .none) = csA (cls ++ ms.map (·.lits)) := by
   show AV.sl ((W.map et ++ ke ms).map (wkD 1)) _ .none = _
   rw [List.map_append,q1,q2,← List.map_append,hWl]
   have q5 : cls.length + ms.length = (cls ++ ms.map (·.lits)).length := by rw [List.length_append,List.length_map]
   rw [q5]
  have q6 : wkD 2 (csA rs) = csA rs := by show AV.sl ((rs.map di).map (wkD 1)) _ .none = _;rw [q3]
  rw [List.map_cons,List.map_cons,List.map_cons,List.map_nil,q4,q6]
  rfl
 clear hru hcls hP hlits hsum
 generalize pM N (cls ++ ms.map (·.lits)) rs = Y at *
 have hru := hru' Y rfl
 clear hru'
 have hCl : (W.map et).length = W.length := List.length_map ..
 generalize W.map et = CW at *
 generalize W.length = wl at *
 refine bm [] Tryz.func8 rfl Tryz.ntmps8 (Nat.le_of_ble_eq_true rfl) (Nat.le_of_ble_eq_true rfl) fun w0 G0 B0 Pr hB0 => ?_
 simp only [bD,bj,List.cons_append,List.nil_append]
 repeat' (first | (with_reducible refine hY _ ?_;clear hY Y) | ((with_reducible first | refine aX rfl (aR fun K' hK' => aa ?_) | refine hK' _ (ab fun Y hY => aa ?_) | refine ab fun Y hY => aa ?_ | refine ag tk0 bR (ab fun Y hY => aa ?_) | refine aa ?_);(try clear hK' K');(try dsimp only [aop]);try simp only [go_sem,↓reduceIte,Nat.reduceEqDiff,Nat.reduceLT,Nat.reduceLeDiff,Nat.reduceAdd,Nat.reduceSub,Nat.reduceMul,Nat.reduceBEq,Nat.reduceBNe,Nat.reducePow,Int.reduceToNat,Int.reduceLE,Int.reduceLT,Int.reduceMul,Int.reduceEq,Int.reducePow,Int.reduceAdd,Int.reduceSub,Int.reduceNeg,reduceCtorEq,bR,Tryz.results8,hm']) | (with_reducible first | refine aI ?_ | refine aP ?_ | refine aS ?_ | refine bi fun K hK => ?_ | refine aC ?_ | refine ay ?_ | refine ah ?_ | refine av ?_ | refine au ?_) | (with_reducible refine hK _ ?_;clear hK K) | ((with_reducible refine ai ?_ ?_);(· decide)) | (with_reducible refine aK (hn) ?_) | (with_reducible refine ce (cu) ?_) | (with_reducible refine aK (hT2) ?_))
 clear hn hT2
 refine b7 (α := Nat) (fun i => [(3,.loc 10003 0),(7,.loc 10007 0),(8,.sl (CW ++ ke (ms.take i)) (wl + i) (.tok 10022)),(38,gV ms),(39,inA (ms.length : Int)),(40,inA (i : Int)),(10003,.bc [gV ms,csA rs] 31),(10007,.bc [inA N,gm ls,.sl CW wl (.tok 10022)] 57),(10022,.bt (wl + i) 41)])
  (fun i => i ≤ ms.length ∧ iH ls (ms.drop i) i = R) (fun i => ms.length - i) 0 [3,7,8,38,39,40] ?_ ⟨Nat.zero_le _,hR0⟩ ?_
 ·simp only [go_sem,↓reduceIte,Nat.reduceEqDiff,Nat.reduceLT,Nat.reduceLeDiff,Nat.reduceAdd,Nat.reduceSub,Nat.reduceMul,Nat.reduceBEq,Nat.reduceBNe,Nat.reducePow,Int.reduceToNat,Int.reduceLE,Int.reduceLT,Int.reduceMul,Int.reduceEq,Int.reducePow,Int.reduceAdd,Int.reduceSub,Int.reduceNeg,reduceCtorEq,List.take_zero,ke,List.map_nil,List.append_nil,Nat.add_zero,List.set_cons_succ,List.set_cons_zero] <;> rfl
 clear hR0
 rintro i ⟨hi,hRi⟩ ih
 by_cases hlt : i < ms.length
 ·have hlt' : ((i : Int) < (ms.length : Int)) = True := eq_true (by omega)
  have hkw := cC (n := i) (by omega)
  have hg0 := wO hlt
  obtain ⟨hz1,hz2⟩ := hl _ (List.getElem_mem hlt)
  have hle := wN ls ms[i] (by omega) hz1 hz2
  rw [qP hlt] at hRi
  have ihx := fun e => ih (i + 1) ⟨by omega,e⟩ (by omega)
  rw [sZ hlt] at ihx
  have htl : (CW ++ ke (ms.take i)).length = wl + i := by rw [List.length_append,hCl];unfold ke;rw [List.length_map,List.length_take];omega
  clear ih hru hl
  generalize qO ls ms[i] = E at *
  generalize ms[i] = m at *
  obtain ⟨zs,ss⟩ := m
  simp only at hg0 hle ihx
  rw [← List.append_assoc] at ihx
  generalize CW ++ ke (ms.take i) = AL at *
  by_cases hE0 : E ≠ 0
  ·rw [if_pos hE0] at hRi
   subst hRi
   rw [if_pos hE0] at hE
   rw [hE]
   simp only
   rw [vW hE0]
   rw [de hE0] at hle
   clear ihx hE
   repeat' (first | (with_reducible refine hY _ ?_;clear hY Y) | ((with_reducible first | refine aX rfl (aR fun K' hK' => aa ?_) | refine hK' _ (ab fun Y hY => aa ?_) | refine ab fun Y hY => aa ?_ | refine ag tk0 bR (ab fun Y hY => aa ?_) | refine aa ?_ | refine aH ?_);(try clear hK' K');(try dsimp only [aop]);try simp only [go_sem,↓reduceIte,Nat.reduceEqDiff,Nat.reduceLT,Nat.reduceLeDiff,Nat.reduceAdd,Nat.reduceSub,Nat.reduceMul,Nat.reduceBEq,Nat.reduceBNe,Nat.reducePow,Int.reduceToNat,Int.reduceLE,Int.reduceLT,Int.reduceMul,Int.reduceEq,Int.reducePow,Int.reduceAdd,Int.reduceSub,Int.reduceNeg,reduceCtorEq,bR,Tryz.results8,hlt',hg0,hlf]) | (with_reducible first | refine aI ?_ | refine aP ?_ | refine aS ?_ | refine bi fun K hK => ?_ | refine aD ?_ | refine aQ ?_ | refine aA ?_ | refine ah ?_ | refine av ?_ | refine aL ?_) | (with_reducible refine hK _ ?_;clear hK K) | ((with_reducible refine ai ?_ ?_);(· decide)) | (with_reducible refine aV ?_ ?_;(· (try and_intros) <;> first | omega | assumption | (simp only [List.length_append,List.length_map,List.length_cons,List.length_nil] <;> omega))) | (with_reducible refine aK (hle) ?_))
  ·rw [if_neg hE0] at hRi
   rw [Decidable.not_not] at hE0
   subst hE0
   rw [dh] at hle
   have ih' := ihx hRi
   clear ihx hE
   repeat' (first | (with_reducible refine hY _ ?_;clear hY Y) | ((with_reducible first | refine aX rfl (aR fun K' hK' => aa ?_) | refine hK' _ (ab fun Y hY => aa ?_) | refine ab fun Y hY => aa ?_ | refine ag tk0 bR (ab fun Y hY => aa ?_) | refine aa ?_);(try clear hK' K');(try dsimp only [aop]);try simp only [go_sem,↓reduceIte,Nat.reduceEqDiff,Nat.reduceLT,Nat.reduceLeDiff,Nat.reduceAdd,Nat.reduceSub,Nat.reduceMul,Nat.reduceBEq,Nat.reduceBNe,Nat.reducePow,Int.reduceToNat,Int.reduceLE,Int.reduceLT,Int.reduceMul,Int.reduceEq,Int.reducePow,Int.reduceAdd,Int.reduceSub,Int.reduceNeg,reduceCtorEq,bR,Tryz.results8,hlt',hg0,hlf,hkw,htl]) | (with_reducible first | refine aI ?_ | refine aP ?_ | refine aS ?_ | refine bi fun K hK => ?_ | refine aD ?_ | refine aC ?_ | refine ay ?_ | refine ah ?_ | refine av ?_) | (with_reducible refine hK _ ?_;clear hK K) | ((with_reducible refine ai ?_ ?_);(· decide)) | (with_reducible refine aV ?_ ?_;(· (try and_intros) <;> first | omega | assumption | (simp only [List.length_append,List.length_map,List.length_cons,List.length_nil] <;> omega))) | (with_reducible refine aK (hle) ?_) | (with_reducible refine ce (cu) ?_))
   refine bO [3,7,8,38,39,40] (by simp only [go_sem,↓reduceIte,Nat.reduceEqDiff,Nat.reduceLT,Nat.reduceLeDiff,Nat.reduceAdd,Nat.reduceSub,Nat.reduceMul,Nat.reduceBEq,Nat.reduceBNe,Nat.reducePow,Int.reduceToNat,Int.reduceLE,Int.reduceLT,Int.reduceMul,Int.reduceEq,Int.reducePow,Int.reduceAdd,Int.reduceSub,Int.reduceNeg,reduceCtorEq];exact rfl) ?_
   exact ih'
 ·have hlt' : ((i : Int) < (ms.length : Int)) = False := eq_false (by omega)
  obtain rfl : i = ms.length := by omega
  rw [List.drop_eq_nil_of_le (Nat.le_refl _)] at hRi
  obtain rfl : R = (0,-1) := hRi.symm
  rw [if_neg (by decide)] at hE
  subst hE
  rw [List.take_of_length_le (Nat.le_refl _)]
  clear ih
  generalize CW ++ ke ms = AL at *
  have hr1 := fun g => xi g X.1 X.2
  have hr2 := fun ex σ => v7 ex σ X.1 X.2
  generalize er X.1 X.2 = ERR at *
  repeat' (first | (with_reducible refine hY _ ?_;clear hY Y) | ((with_reducible first | refine aX rfl (aR fun K' hK' => aa ?_) | refine hK' _ (ab fun Y hY => aa ?_) | refine ab fun Y hY => aa ?_ | refine ag tk0 bR (ab fun Y hY => aa ?_) | refine aa ?_ | refine aH ?_);(try clear hK' K');(try dsimp only [aop]);try simp only [go_sem,↓reduceIte,Nat.reduceEqDiff,Nat.reduceLT,Nat.reduceLeDiff,Nat.reduceAdd,Nat.reduceSub,Nat.reduceMul,Nat.reduceBEq,Nat.reduceBNe,Nat.reducePow,Int.reduceToNat,Int.reduceLE,Int.reduceLT,Int.reduceMul,Int.reduceEq,Int.reducePow,Int.reduceAdd,Int.reduceSub,Int.reduceNeg,reduceCtorEq,bR,Tryz.results8,hlt',hr1,hr2]) | (with_reducible first | refine aI ?_ | refine aP ?_ | refine aS ?_ | refine bi fun K hK => ?_ | refine aC ?_ | refine aO ?_ | refine ax ?_ | refine aL ?_ | refine ar ?_) | (with_reducible refine hK _ ?_;clear hK K) | ((with_reducible refine ai ?_ ?_);(· decide)) | (with_reducible refine aK (dd hru ?_) ?_;(· simp [c6])))
end Go.Proofs.YtmpdocplcgbpkaaGreatDoor

/- Formulas in K: the document's next, Vars, Light. Formulas in K: the document's Vars, Light. Formulas in K: the document's Copy, Same of a formula and itself; the law's small. Is a certificate short? In K: trammelref10.Light, small. -/
import Derived.Test.YtmpdocplcgbpkaaGreatDoorZ22
import Derived.Test.YtmpdocplcgbpkaaGreatDoorZ25
import Derived.Test.YtmpdocplcgbpkaaGreatDoorZ13
import Derived.Test.YtmpdocplcgbpkaaGreatDoorZ27
namespace Go.Proofs.YtmpdocplcgbpkaaGreatDoor
set_option linter.unusedSimpArgs false
set_option linter.unusedVariables false
open Go.RowKit
end Go.Proofs.YtmpdocplcgbpkaaGreatDoor
namespace Go.Proofs.YtmpdocplcgbpkaaGreatDoor
set_option linter.unusedSimpArgs false
set_option linter.unusedVariables false
open Go.RowKit
mutual
def lgF : Fo → Int → Int → Int
 | .mk _ l ks,z,d => if d = 0 ∨ z - 1 < 0 ∨ z - 1 < (l.t.length : Int) ∨ z - 1 < (ks.length : Int) then -1 else mE ks (z - 1 - (l.t.length : Int)) (d - 1)
def mE : List Fo → Int → Int → Int
 | [],z,_ => z
 | f :: r,z,d => if lgF f z d < 0 then -1 else mE r (lgF f z d) d
end
mutual
theorem qQ : ∀ (f : Fo) (z d : Int),0 ≤ z → lgF f z d ≤ z
 | .mk k l ks,z,d,hz => by
  rw [lgF]
  split
  ·omega
  ·have := rW ks (z - 1 - (l.t.length : Int)) (d - 1) (by omega)
   omega
theorem rW : ∀ (l : List Fo) (z d : Int),0 ≤ z → mE l z d ≤ z
 | [],z,d,_ => Int.le_refl _
 | f :: r,z,d,hz => by
  rw [mE]
  split
  ·omega
  ·have h1 := qQ f z d hz
   have h2 := rW r (lgF f z d) d (by omega)
   omega
end
def bp : Nat → List Nat
 | 0 => [0,1,2]
 | 1 => [1,2,3]
 | 2 => [1,2,3]
 | 3 => []
 | 4 => [1,2,3]
 | 5 => [1,2,3]
 | 6 => [1,2,3,7]
 | 7 => [1,2,3,7]
 | 8 => [1,2,3,7]
 | 9 => [1,2,3,7]
 | 10 => []
 | 11 => [1]
 | _ => []
set_option maxRecDepth 100000 in
set_option maxHeartbeats 8000000 in
theorem wP : ∀ f,OkF f → ∀ z d : Int,0 ≤ z → z ≤ 1000000 → 0 ≤ d → d ≤ 1000 → AFn Tryz.prog 16 [.agg (foA f),inA z,inA d] [] (inA (lgF f z d)) [] :=
 im fun k l ks hlt0 hlk hoks ih z d hz hz2 hd hd2 => by
  unfold Lg at hlt0 hlk
  obtain ⟨c,t⟩ := l
  simp only at hlt0
  rw [foA,lgF]
  simp only
  have hw1 : IntKind.i64.wrap (z - 1) = z - 1 := bQ (by omega) (by omega)
  have hw2 : IntKind.i64.wrap (d - 1) = d - 1 := bQ (by omega) (by omega)
  by_cases a1 : d = 0
  ·rw [if_pos (.inl a1)]
   have b1 : (d = 0) = True := eq_true a1
   generalize cU ks = KS at *
   refine bm [] Tryz.func16 rfl Tryz.ntmps16 (Nat.le_of_ble_eq_true rfl) (Nat.le_of_ble_eq_true rfl) fun w0 G0 B0 Pr hB0 => ?_
   simp only [bD,bj,List.cons_append,List.nil_append]
   repeat' (first | (with_reducible refine hY _ ?_;clear hY Y) | ((with_reducible first | refine aX rfl (aR fun K' hK' => aa ?_) | refine hK' _ (ab fun Y hY => aa ?_) | refine aW rfl (ab fun Y hY => aa ?_) | refine ab fun Y hY => aa ?_ | refine ag tk0 bp (ab fun Y hY => aa ?_) | refine aa ?_ | refine aH ?_);(try clear hK' K');(try dsimp only [aop]);try simp only [go_sem,↓reduceIte,Nat.reduceEqDiff,Nat.reduceLT,Nat.reduceLeDiff,Nat.reduceAdd,Nat.reduceSub,Nat.reduceMul,Nat.reduceBEq,Nat.reduceBNe,Nat.reducePow,Int.reduceToNat,Int.reduceLE,Int.reduceLT,Int.reduceMul,Int.reduceEq,Int.reducePow,Int.reduceAdd,Int.reduceSub,Int.reduceNeg,reduceCtorEq,bp,Tryz.results16,hw1,b1]) | (with_reducible first | refine aI ?_ | refine am rfl ?_ | refine bg ?_ ?_ | refine aP ?_ | refine aS ?_ | refine bi fun K hK => ?_ | refine aD ?_ | refine aQ ?_ | refine aL ?_) | (with_reducible refine hK _ ?_;clear hK K) | ((with_reducible first | refine aF ?_ ?_ | refine ai ?_ ?_);(· decide)))
  have b1 : (d = 0) = False := eq_false a1
  by_cases a2 : z - 1 < 0
  ·rw [if_pos (.inr (.inl a2))]
   have b2 : (z - 1 < 0) = True := eq_true a2
   generalize cU ks = KS at *
   refine bm [] Tryz.func16 rfl Tryz.ntmps16 (Nat.le_of_ble_eq_true rfl) (Nat.le_of_ble_eq_true rfl) fun w0 G0 B0 Pr hB0 => ?_
   simp only [bD,bj,List.cons_append,List.nil_append]
   repeat' (first | (with_reducible refine hY _ ?_;clear hY Y) | ((with_reducible first | refine aX rfl (aR fun K' hK' => aa ?_) | refine hK' _ (ab fun Y hY => aa ?_) | refine aW rfl (ab fun Y hY => aa ?_) | refine ab fun Y hY => aa ?_ | refine aR fun K' hK' => aa ?_ | refine ag tk0 bp (ab fun Y hY => aa ?_) | refine aa ?_ | refine aH ?_);(try clear hK' K');(try dsimp only [aop]);try simp only [go_sem,↓reduceIte,Nat.reduceEqDiff,Nat.reduceLT,Nat.reduceLeDiff,Nat.reduceAdd,Nat.reduceSub,Nat.reduceMul,Nat.reduceBEq,Nat.reduceBNe,Nat.reducePow,Int.reduceToNat,Int.reduceLE,Int.reduceLT,Int.reduceMul,Int.reduceEq,Int.reducePow,Int.reduceAdd,Int.reduceSub,Int.reduceNeg,reduceCtorEq,bp,Tryz.results16,hw1,b1,b2]) | (with_reducible first | refine aI ?_ | refine am rfl ?_ | refine ao ?_ | refine bg ?_ ?_ | refine aP ?_ | refine aS ?_ | refine bi fun K hK => ?_ | refine aD ?_ | refine aQ ?_ | refine aL ?_) | (with_reducible refine hK _ ?_;clear hK K) | ((with_reducible first | refine aF ?_ ?_ | refine ai ?_ ?_);(· decide)))
  have b2 : (z - 1 < 0) = False := eq_false a2
  by_cases a3 : z - 1 < (t.length : Int)
  ·rw [if_pos (.inr (.inr (.inl a3)))]
   have b3 : (z - 1 < (t.length : Int)) = True := eq_true a3
   generalize cU ks = KS at *
   refine bm [] Tryz.func16 rfl Tryz.ntmps16 (Nat.le_of_ble_eq_true rfl) (Nat.le_of_ble_eq_true rfl) fun w0 G0 B0 Pr hB0 => ?_
   simp only [bD,bj,List.cons_append,List.nil_append]
   repeat' (first | (with_reducible refine hY _ ?_;clear hY Y) | ((with_reducible first | refine aX rfl (aR fun K' hK' => aa ?_) | refine hK' _ (ab fun Y hY => aa ?_) | refine aW rfl (ab fun Y hY => aa ?_) | refine ab fun Y hY => aa ?_ | refine aR fun K' hK' => aa ?_ | refine ag tk0 bp (ab fun Y hY => aa ?_) | refine aa ?_ | refine aH ?_);(try clear hK' K');(try dsimp only [aop]);try simp only [go_sem,↓reduceIte,Nat.reduceEqDiff,Nat.reduceLT,Nat.reduceLeDiff,Nat.reduceAdd,Nat.reduceSub,Nat.reduceMul,Nat.reduceBEq,Nat.reduceBNe,Nat.reducePow,Int.reduceToNat,Int.reduceLE,Int.reduceLT,Int.reduceMul,Int.reduceEq,Int.reducePow,Int.reduceAdd,Int.reduceSub,Int.reduceNeg,reduceCtorEq,bp,Tryz.results16,hw1,b1,b2,b3]) | (with_reducible first | refine aI ?_ | refine am rfl ?_ | refine ao ?_ | refine bg ?_ ?_ | refine aP ?_ | refine aS ?_ | refine bi fun K hK => ?_ | refine aD ?_ | refine aQ ?_ | refine aL ?_) | (with_reducible refine hK _ ?_;clear hK K) | ((with_reducible first | refine aF ?_ ?_ | refine ai ?_ ?_);(· decide)))
  have b3 : (z - 1 < (t.length : Int)) = False := eq_false a3
  by_cases a4 : z - 1 < (ks.length : Int)
  ·rw [if_pos (.inr (.inr (.inr a4)))]
   have b4 : (z - 1 < (ks.length : Int)) = True := eq_true a4
   generalize cU ks = KS at *
   refine bm [] Tryz.func16 rfl Tryz.ntmps16 (Nat.le_of_ble_eq_true rfl) (Nat.le_of_ble_eq_true rfl) fun w0 G0 B0 Pr hB0 => ?_
   simp only [bD,bj,List.cons_append,List.nil_append]
   repeat' (first | (with_reducible refine hY _ ?_;clear hY Y) | ((with_reducible first | refine aX rfl (aR fun K' hK' => aa ?_) | refine hK' _ (ab fun Y hY => aa ?_) | refine aW rfl (ab fun Y hY => aa ?_) | refine ab fun Y hY => aa ?_ | refine aR fun K' hK' => aa ?_ | refine ag tk0 bp (ab fun Y hY => aa ?_) | refine aa ?_ | refine aH ?_);(try clear hK' K');(try dsimp only [aop]);try simp only [go_sem,↓reduceIte,Nat.reduceEqDiff,Nat.reduceLT,Nat.reduceLeDiff,Nat.reduceAdd,Nat.reduceSub,Nat.reduceMul,Nat.reduceBEq,Nat.reduceBNe,Nat.reducePow,Int.reduceToNat,Int.reduceLE,Int.reduceLT,Int.reduceMul,Int.reduceEq,Int.reducePow,Int.reduceAdd,Int.reduceSub,Int.reduceNeg,reduceCtorEq,bp,Tryz.results16,hw1,b1,b2,b3,b4]) | (with_reducible first | refine aI ?_ | refine ao ?_ | refine aP ?_ | refine aS ?_ | refine bi fun K hK => ?_ | refine aD ?_ | refine aQ ?_ | refine aL ?_) | (with_reducible refine hK _ ?_;clear hK K) | ((with_reducible first | refine aF ?_ ?_ | refine ai ?_ ?_);(· decide)))
  have b4 : (z - 1 < (ks.length : Int)) = False := eq_false a4
  rw [if_neg (by omega)]
  have hw3 : IntKind.i64.wrap (z - 1 - (t.length : Int)) = z - 1 - (t.length : Int) := bQ (by omega) (by omega)
  have hz0 : 0 ≤ z - 1 - (t.length : Int) := by omega
  refine bm [] Tryz.func16 rfl Tryz.ntmps16 (Nat.le_of_ble_eq_true rfl) (Nat.le_of_ble_eq_true rfl) fun w0 G0 B0 Pr hB0 => ?_
  simp only [bD,bj,List.cons_append,List.nil_append]
  repeat' (first | (with_reducible refine hY _ ?_;clear hY Y) | ((with_reducible first | refine aX rfl (aR fun K' hK' => aa ?_) | refine hK' _ (ab fun Y hY => aa ?_) | refine aW rfl (ab fun Y hY => aa ?_) | refine ab fun Y hY => aa ?_ | refine aR fun K' hK' => aa ?_ | refine ag tk0 bp (ab fun Y hY => aa ?_));(try clear hK' K');(try dsimp only [aop]);try simp only [go_sem,↓reduceIte,Nat.reduceEqDiff,Nat.reduceLT,Nat.reduceLeDiff,Nat.reduceAdd,Nat.reduceSub,Nat.reduceMul,Nat.reduceBEq,Nat.reduceBNe,Nat.reducePow,Int.reduceToNat,Int.reduceLE,Int.reduceLT,Int.reduceMul,Int.reduceEq,Int.reducePow,Int.reduceAdd,Int.reduceSub,Int.reduceNeg,reduceCtorEq,bp,Tryz.results16,hw1,b1,b2,b3,b4,hw3]) | (with_reducible first | refine aI ?_ | refine ao ?_ | refine aP ?_ | refine aS ?_ | refine bi fun K hK => ?_ | refine aC ?_ | refine ah ?_ | refine av ?_ | refine au ?_) | (with_reducible refine hK _ ?_;clear hK K) | ((with_reducible first | refine aF ?_ ?_ | refine ai ?_ ?_);(· decide)))
  generalize hR : mE ks (z - 1 - (t.length : Int)) (d - 1) = R at *
  refine b7 (α := Nat × Int) (fun a => [(1,inA a.2),(2,inA d),(3,.loc 10003 0),(7,inA (a.1 : Int)),(10003,.bc [inA k,inA c,.sl (bn t) t.length .none,.sl (cU ks) ks.length .none] 27)])
   (fun a => a.1 ≤ ks.length ∧ 0 ≤ a.2 ∧ a.2 ≤ 1000000 ∧ R = mE (ks.drop a.1) a.2 (d - 1)) (fun a => ks.length - a.1) (0,z - 1 - (t.length : Int)) [1,2,3,7] ?_ ⟨Nat.zero_le _,hz0,by simp only;omega,hR.symm⟩ ?_
  ·simp only [go_sem,↓reduceIte,Nat.reduceEqDiff,Nat.reduceLT,Nat.reduceLeDiff,Nat.reduceAdd,Nat.reduceSub,Nat.reduceMul,Nat.reduceBEq,Nat.reduceBNe,Nat.reducePow,Int.reduceToNat,Int.reduceLE,Int.reduceLT,Int.reduceMul,Int.reduceEq,Int.reducePow,Int.reduceAdd,Int.reduceSub,Int.reduceNeg,reduceCtorEq] <;> rfl
  rintro ⟨j,y⟩ ⟨hj,hy0,hy1,hR2⟩ ihj
  simp only at hj hy0 hy1 hR2 ihj ⊢
  clear hR
  by_cases hlt : j < ks.length
  ·have hlt' : ((j : Int) < (ks.length : Int)) = True := eq_true (by omega)
   have hkw := cC (n := j) (by omega)
   have hg0 := fh hlt
   have hfl := dy ks
   have h1 := ih ks[j] (List.getElem_mem hlt) y (d - 1) hy0 hy1 (by omega) (by omega)
   have hle := qQ ks[j] y (d - 1) hy0
   rw [List.drop_eq_getElem_cons hlt,mE] at hR2
   generalize lgF ks[j] y (d - 1) = q at *
   have next : ¬ q < 0 → _ := fun hq => ihj (j + 1,q) ⟨by simp only;omega,by simp only;omega,by simp only;omega,by rw [if_neg hq] at hR2;exact hR2⟩ (by simp only;omega)
   clear ih hoks ihj
   generalize ks[j] = y2 at *
   obtain ⟨yk,yl,ys⟩ := y2
   simp only [foA] at hg0 h1
   generalize cU ks = KS at *
   by_cases hq : q < 0
   ·have hq' : (q < 0) = True := eq_true hq
    rw [if_pos hq] at hR2
    rw [hR2]
    clear next
    repeat' (first | (with_reducible refine hY _ ?_;clear hY Y) | ((with_reducible first | refine aX rfl (aR fun K' hK' => aa ?_) | refine hK' _ (ab fun Y hY => aa ?_) | refine ab fun Y hY => aa ?_ | refine ag tk0 bp (ab fun Y hY => aa ?_) | refine aa ?_ | refine aH ?_);(try clear hK' K');(try dsimp only [aop]);try simp only [go_sem,↓reduceIte,Nat.reduceEqDiff,Nat.reduceLT,Nat.reduceLeDiff,Nat.reduceAdd,Nat.reduceSub,Nat.reduceMul,Nat.reduceBEq,Nat.reduceBNe,Nat.reducePow,Int.reduceToNat,Int.reduceLE,Int.reduceLT,Int.reduceMul,Int.reduceEq,Int.reducePow,Int.reduceAdd,Int.reduceSub,Int.reduceNeg,reduceCtorEq,bp,Tryz.results16,hlt',hkw,hg0,hfl,hw2,hq']) | (with_reducible first | refine aI ?_ | refine aP ?_ | refine aS ?_ | refine bi fun K hK => ?_ | refine aD ?_ | refine aQ ?_ | refine aA ?_ | refine ah ?_ | refine av ?_ | refine aL ?_) | (with_reducible refine hK _ ?_;clear hK K) | ((with_reducible refine ai ?_ ?_);(· decide)) | (with_reducible refine aV ?_ ?_;(· (try and_intros) <;> first | omega | assumption | (simp only [List.length_append,List.length_map,List.length_cons,List.length_nil] <;> omega))) | (with_reducible refine aK (h1) ?_))
   ·have hq' : (q < 0) = False := eq_false hq
    have ih3 := next hq
    clear next hR2
    repeat' (first | (with_reducible refine hY _ ?_;clear hY Y) | ((with_reducible first | refine aX rfl (aR fun K' hK' => aa ?_) | refine hK' _ (ab fun Y hY => aa ?_) | refine ab fun Y hY => aa ?_ | refine ag tk0 bp (ab fun Y hY => aa ?_) | refine aa ?_);(try clear hK' K');(try dsimp only [aop]);try simp only [go_sem,↓reduceIte,Nat.reduceEqDiff,Nat.reduceLT,Nat.reduceLeDiff,Nat.reduceAdd,Nat.reduceSub,Nat.reduceMul,Nat.reduceBEq,Nat.reduceBNe,Nat.reducePow,Int.reduceToNat,Int.reduceLE,Int.reduceLT,Int.reduceMul,Int.reduceEq,Int.reducePow,Int.reduceAdd,Int.reduceSub,Int.reduceNeg,reduceCtorEq,bp,Tryz.results16,hlt',hkw,hg0,hfl,hw2,hq']) | (with_reducible first | refine aI ?_ | refine aP ?_ | refine aS ?_ | refine bi fun K hK => ?_ | refine aD ?_ | refine aC ?_ | refine ay ?_ | refine ah ?_ | refine av ?_) | (with_reducible refine hK _ ?_;clear hK K) | ((with_reducible refine ai ?_ ?_);(· decide)) | (with_reducible refine aV ?_ ?_;(· (try and_intros) <;> first | omega | assumption | (simp only [List.length_append,List.length_map,List.length_cons,List.length_nil] <;> omega))) | (with_reducible refine aK (h1) ?_))
    refine bO [1,2,3,7] (by simp only [go_sem,↓reduceIte,Nat.reduceEqDiff,Nat.reduceLT,Nat.reduceLeDiff,Nat.reduceAdd,Nat.reduceSub,Nat.reduceMul,Nat.reduceBEq,Nat.reduceBNe,Nat.reducePow,Int.reduceToNat,Int.reduceLE,Int.reduceLT,Int.reduceMul,Int.reduceEq,Int.reducePow,Int.reduceAdd,Int.reduceSub,Int.reduceNeg,reduceCtorEq];exact rfl) ?_
    exact ih3
  ·have hlt' : ((j : Int) < (ks.length : Int)) = False := eq_false (by omega)
   rw [List.drop_of_length_le (by omega)] at hR2
   rw [hR2,show mE [] y (d - 1) = y from rfl]
   clear ihj ih hoks hR2
   generalize cU ks = KS at *
   repeat' (first | (with_reducible refine hY _ ?_;clear hY Y) | ((with_reducible first | refine aX rfl (aR fun K' hK' => aa ?_) | refine hK' _ (ab fun Y hY => aa ?_) | refine ab fun Y hY => aa ?_ | refine ag tk0 bp (ab fun Y hY => aa ?_) | refine aa ?_ | refine aH ?_);(try clear hK' K');(try dsimp only [aop]);try simp only [go_sem,↓reduceIte,Nat.reduceEqDiff,Nat.reduceLT,Nat.reduceLeDiff,Nat.reduceAdd,Nat.reduceSub,Nat.reduceMul,Nat.reduceBEq,Nat.reduceBNe,Nat.reducePow,Int.reduceToNat,Int.reduceLE,Int.reduceLT,Int.reduceMul,Int.reduceEq,Int.reducePow,Int.reduceAdd,Int.reduceSub,Int.reduceNeg,reduceCtorEq,bp,Tryz.results16,hlt']) | (with_reducible first | refine aI ?_ | refine aP ?_ | refine aS ?_ | refine bi fun K hK => ?_ | refine aC ?_ | refine aO ?_ | refine ax ?_ | refine aL ?_ | refine ar ?_) | (with_reducible refine hK _ ?_;clear hK K) | ((with_reducible refine ai ?_ ?_);(· decide)))
end Go.Proofs.YtmpdocplcgbpkaaGreatDoor
namespace Go.Proofs.YtmpdocplcgbpkaaGreatDoor
set_option linter.unusedSimpArgs false
set_option linter.unusedVariables false
open Go.RowKit
mutual
def SmF : Fo → Prop
 | .mk _ l ks => l.t.length ≤ 1000000 ∧ ks.length ≤ 1000000 ∧ vD ks
def vD : List Fo → Prop
 | [] => True
 | f :: r => SmF f ∧ vD r
end
theorem pP : ∀ {l : List Fo},vD l → ∀ f ∈ l,SmF f
 | [],_ => fun f h => absurd h List.not_mem_nil
 | a :: l,h => fun f hf => by
  rcases List.mem_cons.1 hf with rfl | hf
  ·exact h.1
  ·exact pP h.2 f hf
mutual
theorem pQ : ∀ (f : Fo) (z d : Int),0 ≤ z → z ≤ 1000000 → 0 ≤ lgF f z d → SmF f
 | .mk k l ks,z,d,hz,hz2,h => by
  rw [lgF] at h
  split at h
  ·omega
  ·rename_i hc
   exact ⟨by omega,by omega,nr ks _ _ (by omega) (by omega) h⟩
theorem nr : ∀ (l : List Fo) (z d : Int),0 ≤ z → z ≤ 1000000 → 0 ≤ mE l z d → vD l
 | [],z,d,_,_,_ => trivial
 | f :: r,z,d,hz,hz2,h => by
  rw [mE] at h
  split at h
  ·omega
  ·rename_i hc
   have := qQ f z d hz
   exact ⟨pQ f z d hz hz2 (by omega),nr r _ d (by omega) (by omega) h⟩
end
def cr : Nat → List Nat
 | 0 => [0]
 | 1 => [1,2]
 | 2 => [1,2,3]
 | 3 => [1,2,3,4]
 | 4 => [1,2,3,4]
 | 5 => [1,2,3,4]
 | 6 => [2,3]
 | _ => []
set_option maxRecDepth 100000 in
set_option maxHeartbeats 8000000 in
theorem yg : ∀ f,OkF f → SmF f → AFn Tryz.prog 11 [.agg (foA f)] [] (.agg (foA f)) [] :=
 im fun k l ks hlt0 hlk hoks ih hsm => by
  obtain ⟨c,t⟩ := l
  have ht : t.length ≤ 1000000 := hsm.1
  have hk : ks.length ≤ 1000000 := hsm.2.1
  have hks := pP hsm.2.2
  have hct := cM t
  rw [foA]
  simp only
  refine bm [] Tryz.func11 rfl Tryz.ntmps11 (Nat.le_of_ble_eq_true rfl) (Nat.le_of_ble_eq_true rfl) fun w0 G0 B0 Pr hB0 => ?_
  simp only [bD,bj,List.cons_append,List.nil_append]
  repeat' (first | (with_reducible refine hY _ ?_;clear hY Y) | ((with_reducible first | refine aX rfl (aR fun K' hK' => aa ?_) | refine hK' _ (ab fun Y hY => aa ?_) | refine ab fun Y hY => aa ?_ | refine ag tk0 cr (ab fun Y hY => aa ?_) | refine aa ?_ | refine aN rfl (ap fun K' hK' => aa ?_) | refine hK' _ _ (ab fun Y hY => aa ?_));(try clear hK' K');(try dsimp only [aop]);try simp only [go_sem,↓reduceIte,Nat.reduceEqDiff,Nat.reduceLT,Nat.reduceLeDiff,Nat.reduceAdd,Nat.reduceSub,Nat.reduceMul,Nat.reduceBEq,Nat.reduceBNe,Nat.reducePow,Int.reduceToNat,Int.reduceLE,Int.reduceLT,Int.reduceMul,Int.reduceEq,Int.reducePow,Int.reduceAdd,Int.reduceSub,Int.reduceNeg,reduceCtorEq,cr,Tryz.results11,hct]) | (with_reducible first | refine aI ?_ | refine aP ?_ | refine aS ?_ | refine bi fun K hK => ?_ | refine ah ?_ | refine au ?_ | refine aj ?_ | refine bh fun K hK => ?_) | (with_reducible refine hK _ ?_;clear hK K) | (with_reducible refine hK _ _ ?_ ?_;(· kernel_rfl);clear hK K) | (with_reducible refine aq tk0 cr ?_ ?_;(· kernel_rfl)) | (with_reducible refine aV ?_ ?_;(· (try and_intros) <;> first | omega | assumption | (simp only [List.length_append,List.length_map,List.length_cons,List.length_nil] <;> omega))) | (with_reducible refine aE ?_))
  refine d5 (dk (b := 10033) (k0 := 10003) (i := 3) 27 (by decide) (by decide) (by decide) rfl rfl rfl) ?_
  refine b7 (α := Nat) (fun j => [(1,.loc 10001 0),(2,.loc 10002 0),(3,.loc 10003 0),(4,inA (j : Int)),(10001,.bc [inA k,inA c,.sl (bn t) t.length .none,.sl (cU ks) ks.length .none] 27),(10002,.bc [inA 0,inA 0,.sl [] 0 .full,.sl [] 0 .full] 27),(10003,.bc [inA k,inA c,.sl (bn t) t.length (.tok 10014),.sl (cU (ks.take j)) j (.tok 10033)] 27),(10014,.bt t.length 94),(10033,.bt j 27)])
   (fun j => j ≤ ks.length) (fun j => ks.length - j) 0 [1,2,3,4] ?_ (Nat.zero_le _) ?_
  ·simp only [go_sem,↓reduceIte,Nat.reduceEqDiff,Nat.reduceLT,Nat.reduceLeDiff,Nat.reduceAdd,Nat.reduceSub,Nat.reduceMul,Nat.reduceBEq,Nat.reduceBNe,Nat.reducePow,Int.reduceToNat,Int.reduceLE,Int.reduceLT,Int.reduceMul,Int.reduceEq,Int.reducePow,Int.reduceAdd,Int.reduceSub,Int.reduceNeg,reduceCtorEq,List.set_cons_succ,List.set_cons_zero,List.take_zero,cU] <;> rfl
  intro j hj ihj
  by_cases hlt : j < ks.length
  ·have hlt' : ((j : Int) < (ks.length : Int)) = True := eq_true (by omega)
   have hkw := cC (n := j) (by omega)
   have hg0 := fh hlt
   have hfl := dy ks
   have h1 := ih ks[j] (List.getElem_mem hlt) (hks _ (List.getElem_mem hlt))
   have ihj' := ihj (j + 1) (by omega) (by omega)
   have he : cU (ks.take (j + 1)) = cU (ks.take j) ++ foA ks[j] := by rw [gw,gw,xz hlt]
   have hcl : (cU (ks.take j)).length = j * 4 := by rw [dy,List.length_take];omega
   rw [he] at ihj'
   clear ihj ih hoks hsm hks he
   generalize ks[j] = y at *
   obtain ⟨yk,yl,ys⟩ := y
   simp only [foA] at hg0 h1 ihj'
   generalize cU (ks.take j) = KJ at *
   generalize cU ks = KS at *
   repeat' (first | (with_reducible refine hY _ ?_;clear hY Y) | ((with_reducible first | refine aX rfl (aR fun K' hK' => aa ?_) | refine hK' _ (ab fun Y hY => aa ?_) | refine ab fun Y hY => aa ?_ | refine ag tk0 cr (ab fun Y hY => aa ?_) | refine aa ?_ | refine aN rfl (ap fun K' hK' => aa ?_) | refine hK' _ _ (ab fun Y hY => aa ?_));(try clear hK' K');(try dsimp only [aop]);try simp only [go_sem,↓reduceIte,Nat.reduceEqDiff,Nat.reduceLT,Nat.reduceLeDiff,Nat.reduceAdd,Nat.reduceSub,Nat.reduceMul,Nat.reduceBEq,Nat.reduceBNe,Nat.reducePow,Int.reduceToNat,Int.reduceLE,Int.reduceLT,Int.reduceMul,Int.reduceEq,Int.reducePow,Int.reduceAdd,Int.reduceSub,Int.reduceNeg,reduceCtorEq,cr,Tryz.results11,hlt',hkw,hg0,hfl,hcl]) | (with_reducible first | refine aI ?_ | refine aP ?_ | refine aS ?_ | refine bi fun K hK => ?_ | refine aD ?_ | refine ay ?_ | refine ah ?_ | refine av ?_ | refine aj ?_ | refine bh fun K hK => ?_) | (with_reducible refine hK _ ?_;clear hK K) | (with_reducible refine hK _ _ ?_ ?_;(· kernel_rfl);clear hK K) | ((with_reducible refine ai ?_ ?_);(· decide)) | (with_reducible refine aq tk0 cr ?_ ?_;(· kernel_rfl)) | (with_reducible refine aV ?_ ?_;(· (try and_intros) <;> first | omega | assumption | (simp only [List.length_append,List.length_map,List.length_cons,List.length_nil] <;> omega))) | (with_reducible refine aK (h1) ?_))
   refine bO [1,2,3,4] (by simp only [go_sem,↓reduceIte,Nat.reduceEqDiff,Nat.reduceLT,Nat.reduceLeDiff,Nat.reduceAdd,Nat.reduceSub,Nat.reduceMul,Nat.reduceBEq,Nat.reduceBNe,Nat.reducePow,Int.reduceToNat,Int.reduceLE,Int.reduceLT,Int.reduceMul,Int.reduceEq,Int.reducePow,Int.reduceAdd,Int.reduceSub,Int.reduceNeg,reduceCtorEq];exact rfl) ?_
   exact ihj'
  ·have hlt' : ((j : Int) < (ks.length : Int)) = False := eq_false (by omega)
   obtain rfl : j = ks.length := by omega
   rw [List.take_of_length_le (by omega)]
   clear ihj ih hoks hsm hks
   generalize cU ks = KS at *
   repeat' (first | (with_reducible refine hY _ ?_;clear hY Y) | ((with_reducible first | refine aX rfl (aR fun K' hK' => aa ?_) | refine hK' _ (ab fun Y hY => aa ?_) | refine ab fun Y hY => aa ?_ | refine ag tk0 cr (ab fun Y hY => aa ?_) | refine aa ?_ | refine aH ?_);(try clear hK' K');(try dsimp only [aop]);try simp only [go_sem,↓reduceIte,Nat.reduceEqDiff,Nat.reduceLT,Nat.reduceLeDiff,Nat.reduceAdd,Nat.reduceSub,Nat.reduceMul,Nat.reduceBEq,Nat.reduceBNe,Nat.reducePow,Int.reduceToNat,Int.reduceLE,Int.reduceLT,Int.reduceMul,Int.reduceEq,Int.reducePow,Int.reduceAdd,Int.reduceSub,Int.reduceNeg,reduceCtorEq,cr,Tryz.results11,hlt']) | (with_reducible first | refine aI ?_ | refine aP ?_ | refine aS ?_ | refine bi fun K hK => ?_ | refine aC ?_ | refine aO ?_ | refine ax ?_ | refine aL ?_ | refine ar ?_) | (with_reducible refine hK _ ?_;clear hK K) | ((with_reducible refine ai ?_ ?_);(· decide)))
def ct : Nat → List Nat
 | 0 => [0,1]
 | 1 => [2,3]
 | 2 => []
 | 3 => [2,3]
 | 4 => [2,3,5]
 | 5 => [2,3,5]
 | 6 => [2,3,5]
 | 7 => [2,3,5,6]
 | 8 => []
 | 9 => []
 | _ => []
set_option maxRecDepth 100000 in
set_option maxHeartbeats 8000000 in
theorem xp : ∀ f,OkF f → AFn Tryz.prog 12 [.agg (foA f),.agg (foA f)] [] (.c (.bool true)) [] :=
 im fun k l ks hlt0 hlk hoks ih => by
  have hs := xo l hlt0
  unfold Lg at hlk
  obtain ⟨c,t⟩ := l
  rw [foA]
  simp only at hs ⊢
  refine bm [] Tryz.func12 rfl Tryz.ntmps12 (Nat.le_of_ble_eq_true rfl) (Nat.le_of_ble_eq_true rfl) fun w0 G0 B0 Pr hB0 => ?_
  simp only [bD,bj,List.cons_append,List.nil_append]
  repeat' (first | (with_reducible refine hY _ ?_;clear hY Y) | ((with_reducible first | refine aX rfl (aR fun K' hK' => aa ?_) | refine hK' _ (ab fun Y hY => aa ?_) | refine aW rfl (ab fun Y hY => aa ?_) | refine ab fun Y hY => aa ?_ | refine aR fun K' hK' => aa ?_ | refine ag tk0 ct (ab fun Y hY => aa ?_) | refine aa ?_);(try clear hK' K');(try dsimp only [aop]);try simp only [go_sem,↓reduceIte,Nat.reduceEqDiff,Nat.reduceLT,Nat.reduceLeDiff,Nat.reduceAdd,Nat.reduceSub,Nat.reduceMul,Nat.reduceBEq,Nat.reduceBNe,Nat.reducePow,Int.reduceToNat,Int.reduceLE,Int.reduceLT,Int.reduceMul,Int.reduceEq,Int.reducePow,Int.reduceAdd,Int.reduceSub,Int.reduceNeg,reduceCtorEq,ct,Tryz.results12]) | (with_reducible first | refine aI ?_ | refine ao ?_ | refine aP ?_ | refine aS ?_ | refine bi fun K hK => ?_ | refine aC ?_ | refine ah ?_ | refine av ?_ | refine au ?_) | (with_reducible refine hK _ ?_;clear hK K) | ((with_reducible first | refine aF ?_ ?_ | refine ai ?_ ?_);(· decide)) | (with_reducible refine aK (hs) ?_))
  refine b7 (α := Nat) (fun j => [(2,.loc 10002 0),(3,.loc 10003 0),(5,inA (j : Int)),(10002,.bc [inA k,inA c,.sl (bn t) t.length .none,.sl (cU ks) ks.length .none] 27),(10003,.bc [inA k,inA c,.sl (bn t) t.length .none,.sl (cU ks) ks.length .none] 27)])
   (fun j => j ≤ ks.length) (fun j => ks.length - j) 0 [2,3,5] ?_ (Nat.zero_le _) ?_
  ·simp only [go_sem,↓reduceIte,Nat.reduceEqDiff,Nat.reduceLT,Nat.reduceLeDiff,Nat.reduceAdd,Nat.reduceSub,Nat.reduceMul,Nat.reduceBEq,Nat.reduceBNe,Nat.reducePow,Int.reduceToNat,Int.reduceLE,Int.reduceLT,Int.reduceMul,Int.reduceEq,Int.reducePow,Int.reduceAdd,Int.reduceSub,Int.reduceNeg,reduceCtorEq] <;> rfl
  intro j hj ihj
  by_cases hlt : j < ks.length
  ·have hlt' : ((j : Int) < (ks.length : Int)) = True := eq_true (by omega)
   have hkw := cC (n := j) (by omega)
   have hg0 := fh hlt
   have hfl := dy ks
   have h1 := ih ks[j] (List.getElem_mem hlt)
   have ihj' := ihj (j + 1) (by omega) (by omega)
   clear ihj ih hoks
   generalize ks[j] = y at *
   obtain ⟨yk,yl,ys⟩ := y
   simp only [foA] at hg0 h1
   generalize cU ks = KS at *
   repeat' (first | (with_reducible refine hY _ ?_;clear hY Y) | ((with_reducible first | refine aX rfl (aR fun K' hK' => aa ?_) | refine hK' _ (ab fun Y hY => aa ?_) | refine ab fun Y hY => aa ?_ | refine ag tk0 ct (ab fun Y hY => aa ?_) | refine aa ?_ | refine aN rfl (ap fun K' hK' => aa ?_) | refine hK' _ _ (ab fun Y hY => aa ?_));(try clear hK' K');(try dsimp only [aop]);try simp only [go_sem,↓reduceIte,Nat.reduceEqDiff,Nat.reduceLT,Nat.reduceLeDiff,Nat.reduceAdd,Nat.reduceSub,Nat.reduceMul,Nat.reduceBEq,Nat.reduceBNe,Nat.reducePow,Int.reduceToNat,Int.reduceLE,Int.reduceLT,Int.reduceMul,Int.reduceEq,Int.reducePow,Int.reduceAdd,Int.reduceSub,Int.reduceNeg,reduceCtorEq,ct,Tryz.results12,hlt',hkw,hg0,hfl]) | (with_reducible first | refine aI ?_ | refine aP ?_ | refine aS ?_ | refine bi fun K hK => ?_ | refine aD ?_ | refine aC ?_ | refine ay ?_ | refine ah ?_ | refine av ?_ | refine aj ?_ | refine bh fun K hK => ?_) | (with_reducible refine hK _ ?_;clear hK K) | (with_reducible refine hK _ _ ?_ ?_;(· kernel_rfl);clear hK K) | ((with_reducible refine ai ?_ ?_);(· decide)) | (with_reducible refine aq tk0 ct ?_ ?_;(· kernel_rfl)) | (with_reducible refine aV ?_ ?_;(· (try and_intros) <;> first | omega | assumption | (simp only [List.length_append,List.length_map,List.length_cons,List.length_nil] <;> omega))) | (with_reducible refine aK (h1) ?_))
   refine bO [2,3,5] (by simp only [go_sem,↓reduceIte,Nat.reduceEqDiff,Nat.reduceLT,Nat.reduceLeDiff,Nat.reduceAdd,Nat.reduceSub,Nat.reduceMul,Nat.reduceBEq,Nat.reduceBNe,Nat.reducePow,Int.reduceToNat,Int.reduceLE,Int.reduceLT,Int.reduceMul,Int.reduceEq,Int.reducePow,Int.reduceAdd,Int.reduceSub,Int.reduceNeg,reduceCtorEq];exact rfl) ?_
   exact ihj'
  ·have hlt' : ((j : Int) < (ks.length : Int)) = False := eq_false (by omega)
   clear ihj ih hoks
   generalize cU ks = KS at *
   repeat' (first | (with_reducible refine hY _ ?_;clear hY Y) | ((with_reducible first | refine aX rfl (aR fun K' hK' => aa ?_) | refine hK' _ (ab fun Y hY => aa ?_) | refine ab fun Y hY => aa ?_ | refine ag tk0 ct (ab fun Y hY => aa ?_) | refine aa ?_ | refine aH ?_);(try clear hK' K');(try dsimp only [aop]);try simp only [go_sem,↓reduceIte,Nat.reduceEqDiff,Nat.reduceLT,Nat.reduceLeDiff,Nat.reduceAdd,Nat.reduceSub,Nat.reduceMul,Nat.reduceBEq,Nat.reduceBNe,Nat.reducePow,Int.reduceToNat,Int.reduceLE,Int.reduceLT,Int.reduceMul,Int.reduceEq,Int.reducePow,Int.reduceAdd,Int.reduceSub,Int.reduceNeg,reduceCtorEq,ct,Tryz.results12,hlt']) | (with_reducible first | refine aI ?_ | refine aP ?_ | refine aS ?_ | refine bi fun K hK => ?_ | refine aC ?_ | refine aO ?_ | refine ax ?_ | refine aL ?_ | refine ar ?_) | (with_reducible refine hK _ ?_;clear hK K) | ((with_reducible refine ai ?_ ?_);(· decide)))
end Go.Proofs.YtmpdocplcgbpkaaGreatDoor
namespace Go.Proofs.YtmpdocplcgbpkaaGreatDoor
set_option linter.unusedSimpArgs false
set_option linter.unusedVariables false
open Go.RowKit
def ltL (l : Lem) : Bool := decide (l.lits.length ≤ 40) && (decide (l.steps.length ≤ 60) && l.steps.all fun s => decide (s.parts.length ≤ 70))
def ltC (c : Crt) : Bool := decide (c.lems.length ≤ 40) && (decide (c.refute.length ≤ 60) && (c.lems.all ltL && c.refute.all fun r => decide (r.length ≤ 60)))
structure OkC (c : Crt) : Prop where
 lems : Lg c.lems
 lits : ∀ l ∈ c.lems,Lg l.lits
 steps : ∀ l ∈ c.lems,oM l.steps
 ref : Lg c.refute
 refs : ∀ r ∈ c.refute,Lg r
abbrev vV (c : Crt) : List AV := [gV c.lems,csA c.refute]
theorem kF {ls : List Lem} {i : Nat} (h : i < ls.length) : (ls.flatMap gJ).getD (i * 2) .u = di ls[i].lits := nP (f := gJ) (fun _ => rfl) h (by decide)
theorem m6 {ls : List Lem} {i : Nat} (h : i < ls.length) : (ls.flatMap gJ).getD (i * 2 + 1) .u = jD ls[i].steps := qB (f := gJ) (fun _ => rfl) h 1 (by decide)
theorem qp {α : Type} {p : α → Bool} {l : List α} {k : Nat} (h : k < l.length) (hp : p l[k] = false) : l.all p = false := by
 rw [List.all_eq_false]
 exact ⟨_,List.getElem_mem h,by rw [hp];decide⟩
theorem qq {α : Type} {p : α → Bool} {l : List α} (h : ∀ j (hj : j < l.length),p l[j] = true) : l.all p = true := by
 rw [List.all_eq_true]
 intro x hx
 obtain ⟨j,hj,rfl⟩ := List.getElem_of_mem hx
 exact h j hj
def a8 : Nat → List Nat
 | 0 => [0]
 | 1 => [1]
 | 2 => []
 | 3 => [1]
 | 4 => [1,3]
 | 5 => [1,3]
 | 6 => [1,3]
 | 7 => []
 | 8 => [1,3]
 | 9 => [1,3,4]
 | 10 => [1,3,4]
 | 11 => [1,3,4]
 | 12 => []
 | 13 => [1]
 | 14 => [1,5]
 | 15 => [1,5]
 | 16 => [1,5]
 | 17 => []
 | 18 => []
 | _ => []
set_option maxRecDepth 100000 in
set_option maxHeartbeats 16000000 in
theorem q9 (c : Crt) (hok : OkC c) : AFn Tryz.prog 15 [.agg (vV c)] [] (.c (.bool (ltC c))) [] := by
 obtain ⟨o1,o2,o3,o4,o5⟩ := hok
 obtain ⟨ms,rs⟩ := c
 simp only at o1 o2 o3 o4 o5
 have hE : ltC ⟨ms,rs⟩ = (decide (ms.length ≤ 40) && (decide (rs.length ≤ 60) && (ms.all ltL && rs.all fun r => decide (r.length ≤ 60)))) := rfl
 unfold Lg at o1 o4
 by_cases h1 : ms.length ≤ 40
 case neg =>
  rw [decide_eq_false h1,Bool.false_and] at hE
  rw [hE]
  have h1' : ((40 : Int) < (ms.length : Int)) = True := eq_true (by omega)
  refine bm [] Tryz.func15 rfl Tryz.ntmps15 (Nat.le_of_ble_eq_true rfl) (Nat.le_of_ble_eq_true rfl) fun w0 G0 B0 Pr hB0 => ?_
  simp only [bD,bj,List.cons_append,List.nil_append]
  repeat' (first | (with_reducible refine hY _ ?_;clear hY Y) | ((with_reducible first | refine aX rfl (aR fun K' hK' => aa ?_) | refine hK' _ (ab fun Y hY => aa ?_) | refine aW rfl (ab fun Y hY => aa ?_) | refine ab fun Y hY => aa ?_ | refine ag tk0 a8 (ab fun Y hY => aa ?_) | refine aa ?_ | refine aH ?_);(try clear hK' K');(try dsimp only [aop]);try simp only [go_sem,↓reduceIte,Nat.reduceEqDiff,Nat.reduceLT,Nat.reduceLeDiff,Nat.reduceAdd,Nat.reduceSub,Nat.reduceMul,Nat.reduceBEq,Nat.reduceBNe,Nat.reducePow,Int.reduceToNat,Int.reduceLE,Int.reduceLT,Int.reduceMul,Int.reduceEq,Int.reducePow,Int.reduceAdd,Int.reduceSub,Int.reduceNeg,reduceCtorEq,a8,Tryz.results15,h1']) | (with_reducible first | refine aI ?_ | refine am rfl ?_ | refine bg ?_ ?_ | refine aP ?_ | refine aS ?_ | refine bi fun K hK => ?_ | refine aD ?_ | refine aQ ?_ | refine aL ?_) | (with_reducible refine hK _ ?_;clear hK K) | ((with_reducible first | refine aF ?_ ?_ | refine ai ?_ ?_);(· decide)))
 have h1' : ((40 : Int) < (ms.length : Int)) = False := eq_false (by omega)
 by_cases h2 : rs.length ≤ 60
 case neg =>
  rw [decide_eq_false h2,Bool.false_and,Bool.and_false] at hE
  rw [hE]
  have h2' : ((60 : Int) < (rs.length : Int)) = True := eq_true (by omega)
  refine bm [] Tryz.func15 rfl Tryz.ntmps15 (Nat.le_of_ble_eq_true rfl) (Nat.le_of_ble_eq_true rfl) fun w0 G0 B0 Pr hB0 => ?_
  simp only [bD,bj,List.cons_append,List.nil_append]
  repeat' (first | (with_reducible refine hY _ ?_;clear hY Y) | ((with_reducible first | refine aX rfl (aR fun K' hK' => aa ?_) | refine hK' _ (ab fun Y hY => aa ?_) | refine aW rfl (ab fun Y hY => aa ?_) | refine ab fun Y hY => aa ?_ | refine aR fun K' hK' => aa ?_ | refine ag tk0 a8 (ab fun Y hY => aa ?_) | refine aa ?_ | refine aH ?_);(try clear hK' K');(try dsimp only [aop]);try simp only [go_sem,↓reduceIte,Nat.reduceEqDiff,Nat.reduceLT,Nat.reduceLeDiff,Nat.reduceAdd,Nat.reduceSub,Nat.reduceMul,Nat.reduceBEq,Nat.reduceBNe,Nat.reducePow,Int.reduceToNat,Int.reduceLE,Int.reduceLT,Int.reduceMul,Int.reduceEq,Int.reducePow,Int.reduceAdd,Int.reduceSub,Int.reduceNeg,reduceCtorEq,a8,Tryz.results15,h1',h2']) | (with_reducible first | refine aI ?_ | refine ao ?_ | refine aP ?_ | refine aS ?_ | refine bi fun K hK => ?_ | refine aD ?_ | refine aQ ?_ | refine aL ?_) | (with_reducible refine hK _ ?_;clear hK K) | ((with_reducible first | refine aF ?_ ?_ | refine ai ?_ ?_);(· decide)))
 have h2' : ((60 : Int) < (rs.length : Int)) = False := eq_false (by omega)
 rw [decide_eq_true h1,decide_eq_true h2,Bool.true_and,Bool.true_and] at hE
 have hlf := kd ms
 have hrf : (rs.map di).length = rs.length := List.length_map ..
 refine bm [] Tryz.func15 rfl Tryz.ntmps15 (Nat.le_of_ble_eq_true rfl) (Nat.le_of_ble_eq_true rfl) fun w0 G0 B0 Pr hB0 => ?_
 simp only [bD,bj,List.cons_append,List.nil_append]
 repeat' (first | (with_reducible refine hY _ ?_;clear hY Y) | ((with_reducible first | refine aX rfl (aR fun K' hK' => aa ?_) | refine hK' _ (ab fun Y hY => aa ?_) | refine aW rfl (ab fun Y hY => aa ?_) | refine ab fun Y hY => aa ?_ | refine aR fun K' hK' => aa ?_ | refine ag tk0 a8 (ab fun Y hY => aa ?_));(try clear hK' K');(try dsimp only [aop]);try simp only [go_sem,↓reduceIte,Nat.reduceEqDiff,Nat.reduceLT,Nat.reduceLeDiff,Nat.reduceAdd,Nat.reduceSub,Nat.reduceMul,Nat.reduceBEq,Nat.reduceBNe,Nat.reducePow,Int.reduceToNat,Int.reduceLE,Int.reduceLT,Int.reduceMul,Int.reduceEq,Int.reducePow,Int.reduceAdd,Int.reduceSub,Int.reduceNeg,reduceCtorEq,a8,Tryz.results15,h1',h2']) | (with_reducible first | refine aI ?_ | refine ao ?_ | refine aP ?_ | refine aS ?_ | refine bi fun K hK => ?_ | refine aC ?_ | refine ah ?_ | refine av ?_ | refine au ?_) | (with_reducible refine hK _ ?_;clear hK K) | ((with_reducible first | refine aF ?_ ?_ | refine ai ?_ ?_);(· decide)))
 refine b7 (α := Nat) (fun i => [(1,.loc 10001 0),(3,inA (i : Int)),(10001,.bc [gV ms,csA rs] 31)])
  (fun i => i ≤ ms.length ∧ ∀ j (hj : j < ms.length),j < i → ltL ms[j] = true) (fun i => ms.length - i) 0 [1,3] ?_ ⟨Nat.zero_le _,fun j _ hj => absurd hj (Nat.not_lt_zero _)⟩ ?_
 ·simp only [go_sem,↓reduceIte,Nat.reduceEqDiff,Nat.reduceLT,Nat.reduceLeDiff,Nat.reduceAdd,Nat.reduceSub,Nat.reduceMul,Nat.reduceBEq,Nat.reduceBNe,Nat.reducePow,Int.reduceToNat,Int.reduceLE,Int.reduceLT,Int.reduceMul,Int.reduceEq,Int.reducePow,Int.reduceAdd,Int.reduceSub,Int.reduceNeg,reduceCtorEq] <;> rfl
 rintro i ⟨hi,hall⟩ ih
 by_cases hlt : i < ms.length
 ·have hlt' : ((i : Int) < (ms.length : Int)) = True := eq_true (by omega)
  have hkw := cC (n := i) (by omega)
  have hg0 := kF hlt
  have hg1 := m6 hlt
  have hs := o3 _ (List.getElem_mem hlt)
  have ha : ltL ms[i] = false → ltC ⟨ms,rs⟩ = false := fun e => by rw [hE,qp hlt e,Bool.false_and]
  have ihx := fun (e : ltL ms[i] = true) => ih (i + 1) ⟨by omega,fun j hj hjk => by
   by_cases e2 : j < i
   ·exact hall j hj e2
   ·obtain rfl : j = i := by omega
    exact e⟩ (by omega)
  have hT : ltL ms[i] = (decide (ms[i].lits.length ≤ 40) && (decide (ms[i].steps.length ≤ 60) && ms[i].steps.all fun s => decide (s.parts.length ≤ 70))) := rfl
  clear ih hall hE o2 o3 o5
  generalize ltC ⟨ms,rs⟩ = R at *
  generalize ltL ms[i] = T at *
  generalize ms[i] = l at *
  obtain ⟨zs,ss⟩ := l
  simp only at hg0 hg1 hs hT
  by_cases h3 : zs.length ≤ 40
  case neg =>
   rw [decide_eq_false h3,Bool.false_and] at hT
   rw [ha hT]
   have h3' : ((40 : Int) < (zs.length : Int)) = True := eq_true (by omega)
   clear ihx
   repeat' (first | (with_reducible refine hY _ ?_;clear hY Y) | ((with_reducible first | refine aX rfl (aR fun K' hK' => aa ?_) | refine hK' _ (ab fun Y hY => aa ?_) | refine aW rfl (ab fun Y hY => aa ?_) | refine ab fun Y hY => aa ?_ | refine ag tk0 a8 (ab fun Y hY => aa ?_) | refine aa ?_ | refine aH ?_);(try clear hK' K');(try dsimp only [aop]);try simp only [go_sem,↓reduceIte,Nat.reduceEqDiff,Nat.reduceLT,Nat.reduceLeDiff,Nat.reduceAdd,Nat.reduceSub,Nat.reduceMul,Nat.reduceBEq,Nat.reduceBNe,Nat.reducePow,Int.reduceToNat,Int.reduceLE,Int.reduceLT,Int.reduceMul,Int.reduceEq,Int.reducePow,Int.reduceAdd,Int.reduceSub,Int.reduceNeg,reduceCtorEq,a8,Tryz.results15,hlt',hlf,hg0,hg1,h3']) | (with_reducible first | refine aI ?_ | refine am rfl ?_ | refine bg ?_ ?_ | refine aP ?_ | refine aS ?_ | refine bi fun K hK => ?_ | refine aD ?_ | refine aQ ?_ | refine aA ?_ | refine ah ?_ | refine av ?_ | refine aL ?_) | (with_reducible refine hK _ ?_;clear hK K) | ((with_reducible first | refine aF ?_ ?_ | refine ai ?_ ?_);(· decide)) | (with_reducible refine aV ?_ ?_;(· (try and_intros) <;> first | omega | assumption | (simp only [List.length_append,List.length_map,List.length_cons,List.length_nil] <;> omega))))
  have h3' : ((40 : Int) < (zs.length : Int)) = False := eq_false (by omega)
  by_cases h4 : ss.length ≤ 60
  case neg =>
   rw [decide_eq_false h4,Bool.false_and,Bool.and_false] at hT
   rw [ha hT]
   have h4' : ((60 : Int) < (ss.length : Int)) = True := eq_true (by omega)
   clear ihx
   repeat' (first | (with_reducible refine hY _ ?_;clear hY Y) | ((with_reducible first | refine aX rfl (aR fun K' hK' => aa ?_) | refine hK' _ (ab fun Y hY => aa ?_) | refine aW rfl (ab fun Y hY => aa ?_) | refine ab fun Y hY => aa ?_ | refine aR fun K' hK' => aa ?_ | refine ag tk0 a8 (ab fun Y hY => aa ?_) | refine aa ?_ | refine aH ?_);(try clear hK' K');(try dsimp only [aop]);try simp only [go_sem,↓reduceIte,Nat.reduceEqDiff,Nat.reduceLT,Nat.reduceLeDiff,Nat.reduceAdd,Nat.reduceSub,Nat.reduceMul,Nat.reduceBEq,Nat.reduceBNe,Nat.reducePow,Int.reduceToNat,Int.reduceLE,Int.reduceLT,Int.reduceMul,Int.reduceEq,Int.reducePow,Int.reduceAdd,Int.reduceSub,Int.reduceNeg,reduceCtorEq,a8,Tryz.results15,hlt',hlf,hg0,hg1,h3',h4']) | (with_reducible first | refine aI ?_ | refine ao ?_ | refine aP ?_ | refine aS ?_ | refine bi fun K hK => ?_ | refine aD ?_ | refine aQ ?_ | refine aA ?_ | refine ah ?_ | refine av ?_ | refine aL ?_) | (with_reducible refine hK _ ?_;clear hK K) | ((with_reducible first | refine aF ?_ ?_ | refine ai ?_ ?_);(· decide)) | (with_reducible refine aV ?_ ?_;(· (try and_intros) <;> first | omega | assumption | (simp only [List.length_append,List.length_map,List.length_cons,List.length_nil] <;> omega))))
  have h4' : ((60 : Int) < (ss.length : Int)) = False := eq_false (by omega)
  rw [decide_eq_true h3,decide_eq_true h4,Bool.true_and,Bool.true_and] at hT
  have hsf := mo ss
  repeat' (first | (with_reducible refine hY _ ?_;clear hY Y) | ((with_reducible first | refine aX rfl (aR fun K' hK' => aa ?_) | refine hK' _ (ab fun Y hY => aa ?_) | refine aW rfl (ab fun Y hY => aa ?_) | refine ab fun Y hY => aa ?_ | refine aR fun K' hK' => aa ?_ | refine ag tk0 a8 (ab fun Y hY => aa ?_));(try clear hK' K');(try dsimp only [aop]);try simp only [go_sem,↓reduceIte,Nat.reduceEqDiff,Nat.reduceLT,Nat.reduceLeDiff,Nat.reduceAdd,Nat.reduceSub,Nat.reduceMul,Nat.reduceBEq,Nat.reduceBNe,Nat.reducePow,Int.reduceToNat,Int.reduceLE,Int.reduceLT,Int.reduceMul,Int.reduceEq,Int.reducePow,Int.reduceAdd,Int.reduceSub,Int.reduceNeg,reduceCtorEq,a8,Tryz.results15,hlt',hlf,hg0,hg1,h3',h4']) | (with_reducible first | refine aI ?_ | refine ao ?_ | refine aP ?_ | refine aS ?_ | refine bi fun K hK => ?_ | refine aD ?_ | refine aC ?_ | refine ah ?_ | refine av ?_ | refine au ?_) | (with_reducible refine hK _ ?_;clear hK K) | ((with_reducible first | refine aF ?_ ?_ | refine ai ?_ ?_);(· decide)) | (with_reducible refine aV ?_ ?_;(· (try and_intros) <;> first | omega | assumption | (simp only [List.length_append,List.length_map,List.length_cons,List.length_nil] <;> omega))))
  refine b7 (α := Nat) (fun k => [(1,.loc 10001 0),(3,inA (i : Int)),(4,inA (k : Int)),(10001,.bc [gV ms,csA rs] 31)])
   (fun k => k ≤ ss.length ∧ ∀ j (hj : j < ss.length),j < k → decide (ss[j].parts.length ≤ 70) = true) (fun k => ss.length - k) 0 [1,3,4] ?_ ⟨Nat.zero_le _,fun j _ hj => absurd hj (Nat.not_lt_zero _)⟩ ?_
  ·simp only [go_sem,↓reduceIte,Nat.reduceEqDiff,Nat.reduceLT,Nat.reduceLeDiff,Nat.reduceAdd,Nat.reduceSub,Nat.reduceMul,Nat.reduceBEq,Nat.reduceBNe,Nat.reducePow,Int.reduceToNat,Int.reduceLE,Int.reduceLT,Int.reduceMul,Int.reduceEq,Int.reducePow,Int.reduceAdd,Int.reduceSub,Int.reduceNeg,reduceCtorEq] <;> rfl
  rintro k ⟨hk,hak⟩ ihk
  by_cases hkl : k < ss.length
  ·have hkl' : ((k : Int) < (ss.length : Int)) = True := eq_true (by omega)
   have hkw2 := cC (n := k) (by omega)
   have hgk := tz hkl
   by_cases h5 : ss[k].parts.length ≤ 70
   ·have ihk' := ihk (k + 1) ⟨by omega,fun j hj hjk => by
     by_cases e2 : j < k
     ·exact hak j hj e2
     ·obtain rfl : j = k := by omega
      exact decide_eq_true h5⟩ (by omega)
    have h5' : ((70 : Int) < (ss[k].parts.length : Int)) = False := eq_false (by omega)
    clear ihk hak ihx ha hT
    generalize ss[k].parts = P at *
    repeat' (first | (with_reducible refine hY _ ?_;clear hY Y) | ((with_reducible first | refine aX rfl (aR fun K' hK' => aa ?_) | refine hK' _ (ab fun Y hY => aa ?_) | refine ab fun Y hY => aa ?_ | refine ag tk0 a8 (ab fun Y hY => aa ?_));(try clear hK' K');(try dsimp only [aop]);try simp only [go_sem,↓reduceIte,Nat.reduceEqDiff,Nat.reduceLT,Nat.reduceLeDiff,Nat.reduceAdd,Nat.reduceSub,Nat.reduceMul,Nat.reduceBEq,Nat.reduceBNe,Nat.reducePow,Int.reduceToNat,Int.reduceLE,Int.reduceLT,Int.reduceMul,Int.reduceEq,Int.reducePow,Int.reduceAdd,Int.reduceSub,Int.reduceNeg,reduceCtorEq,a8,Tryz.results15,hlt',hlf,hg0,hg1,hsf,hkl',hkw2,hgk,h5']) | (with_reducible first | refine aI ?_ | refine aP ?_ | refine aS ?_ | refine bi fun K hK => ?_ | refine aD ?_ | refine aC ?_ | refine ay ?_ | refine ah ?_ | refine av ?_) | (with_reducible refine hK _ ?_;clear hK K) | ((with_reducible refine ai ?_ ?_);(· decide)) | (with_reducible refine aV ?_ ?_;(· (try and_intros) <;> first | omega | assumption | (simp only [List.length_append,List.length_map,List.length_cons,List.length_nil] <;> omega))))
    refine bO [1,3,4] (by simp only [go_sem,↓reduceIte,Nat.reduceEqDiff,Nat.reduceLT,Nat.reduceLeDiff,Nat.reduceAdd,Nat.reduceSub,Nat.reduceMul,Nat.reduceBEq,Nat.reduceBNe,Nat.reducePow,Int.reduceToNat,Int.reduceLE,Int.reduceLT,Int.reduceMul,Int.reduceEq,Int.reducePow,Int.reduceAdd,Int.reduceSub,Int.reduceNeg,reduceCtorEq];exact rfl) ?_
    exact ihk'
   ·rw [qp hkl (decide_eq_false h5)] at hT
    rw [ha hT]
    have h5' : ((70 : Int) < (ss[k].parts.length : Int)) = True := eq_true (by omega)
    clear ihk hak ihx ha hT
    generalize ss[k].parts = P at *
    repeat' (first | (with_reducible refine hY _ ?_;clear hY Y) | ((with_reducible first | refine aX rfl (aR fun K' hK' => aa ?_) | refine hK' _ (ab fun Y hY => aa ?_) | refine ab fun Y hY => aa ?_ | refine ag tk0 a8 (ab fun Y hY => aa ?_) | refine aa ?_ | refine aH ?_);(try clear hK' K');(try dsimp only [aop]);try simp only [go_sem,↓reduceIte,Nat.reduceEqDiff,Nat.reduceLT,Nat.reduceLeDiff,Nat.reduceAdd,Nat.reduceSub,Nat.reduceMul,Nat.reduceBEq,Nat.reduceBNe,Nat.reducePow,Int.reduceToNat,Int.reduceLE,Int.reduceLT,Int.reduceMul,Int.reduceEq,Int.reducePow,Int.reduceAdd,Int.reduceSub,Int.reduceNeg,reduceCtorEq,a8,Tryz.results15,hlt',hlf,hg0,hg1,hsf,hkl',hkw2,hgk,h5']) | (with_reducible first | refine aI ?_ | refine aP ?_ | refine aS ?_ | refine bi fun K hK => ?_ | refine aD ?_ | refine aQ ?_ | refine aA ?_ | refine ah ?_ | refine av ?_ | refine aL ?_) | (with_reducible refine hK _ ?_;clear hK K) | ((with_reducible refine ai ?_ ?_);(· decide)) | (with_reducible refine aV ?_ ?_;(· (try and_intros) <;> first | omega | assumption | (simp only [List.length_append,List.length_map,List.length_cons,List.length_nil] <;> omega))))
  ·have hkl' : ((k : Int) < (ss.length : Int)) = False := eq_false (by omega)
   have ih' := ihx (hT.trans (qq fun j hj => hak j hj (by omega)))
   clear ihk hak ihx ha hT
   repeat' (first | (with_reducible refine hY _ ?_;clear hY Y) | ((with_reducible first | refine aX rfl (aR fun K' hK' => aa ?_) | refine hK' _ (ab fun Y hY => aa ?_) | refine ab fun Y hY => aa ?_ | refine ag tk0 a8 (ab fun Y hY => aa ?_));(try clear hK' K');(try dsimp only [aop]);try simp only [go_sem,↓reduceIte,Nat.reduceEqDiff,Nat.reduceLT,Nat.reduceLeDiff,Nat.reduceAdd,Nat.reduceSub,Nat.reduceMul,Nat.reduceBEq,Nat.reduceBNe,Nat.reducePow,Int.reduceToNat,Int.reduceLE,Int.reduceLT,Int.reduceMul,Int.reduceEq,Int.reducePow,Int.reduceAdd,Int.reduceSub,Int.reduceNeg,reduceCtorEq,a8,Tryz.results15,hlt',hlf,hg0,hg1,hsf,hkl',hkw]) | (with_reducible first | refine aI ?_ | refine aP ?_ | refine aS ?_ | refine bi fun K hK => ?_ | refine aC ?_ | refine aO ?_ | refine ay ?_ | refine ax ?_ | refine ar ?_) | (with_reducible refine hK _ ?_;clear hK K) | ((with_reducible refine ai ?_ ?_);(· decide)) | (with_reducible refine aV ?_ ?_;(· (try and_intros) <;> first | omega | assumption | (simp only [List.length_append,List.length_map,List.length_cons,List.length_nil] <;> omega))))
   refine bO [1,3] (by simp only [go_sem,↓reduceIte,Nat.reduceEqDiff,Nat.reduceLT,Nat.reduceLeDiff,Nat.reduceAdd,Nat.reduceSub,Nat.reduceMul,Nat.reduceBEq,Nat.reduceBNe,Nat.reducePow,Int.reduceToNat,Int.reduceLE,Int.reduceLT,Int.reduceMul,Int.reduceEq,Int.reducePow,Int.reduceAdd,Int.reduceSub,Int.reduceNeg,reduceCtorEq];exact rfl) ?_
   exact ih'
 have hlt' : ((i : Int) < (ms.length : Int)) = False := eq_false (by omega)
 rw [qq fun j hj => hall j hj (by omega),Bool.true_and] at hE
 clear ih hall
 generalize ltC ⟨ms,rs⟩ = R at *
 repeat' (first | (with_reducible refine hY _ ?_;clear hY Y) | ((with_reducible first | refine aX rfl (aR fun K' hK' => aa ?_) | refine hK' _ (ab fun Y hY => aa ?_) | refine ab fun Y hY => aa ?_ | refine ag tk0 a8 (ab fun Y hY => aa ?_));(try clear hK' K');(try dsimp only [aop]);try simp only [go_sem,↓reduceIte,Nat.reduceEqDiff,Nat.reduceLT,Nat.reduceLeDiff,Nat.reduceAdd,Nat.reduceSub,Nat.reduceMul,Nat.reduceBEq,Nat.reduceBNe,Nat.reducePow,Int.reduceToNat,Int.reduceLE,Int.reduceLT,Int.reduceMul,Int.reduceEq,Int.reducePow,Int.reduceAdd,Int.reduceSub,Int.reduceNeg,reduceCtorEq,a8,Tryz.results15,hlt']) | (with_reducible first | refine aI ?_ | refine aP ?_ | refine aS ?_ | refine bi fun K hK => ?_ | refine aC ?_ | refine aO ?_ | refine ax ?_ | refine ah ?_ | refine ar ?_ | refine au ?_) | (with_reducible refine hK _ ?_;clear hK K) | ((with_reducible refine ai ?_ ?_);(· decide)))
 refine b7 (α := Nat) (fun i => [(1,.loc 10001 0),(5,inA (i : Int)),(10001,.bc [gV ms,csA rs] 31)])
  (fun i => i ≤ rs.length ∧ ∀ j (hj : j < rs.length),j < i → decide (rs[j].length ≤ 60) = true) (fun i => rs.length - i) 0 [1,5] ?_ ⟨Nat.zero_le _,fun j _ hj => absurd hj (Nat.not_lt_zero _)⟩ ?_
 ·simp only [go_sem,↓reduceIte,Nat.reduceEqDiff,Nat.reduceLT,Nat.reduceLeDiff,Nat.reduceAdd,Nat.reduceSub,Nat.reduceMul,Nat.reduceBEq,Nat.reduceBNe,Nat.reducePow,Int.reduceToNat,Int.reduceLE,Int.reduceLT,Int.reduceMul,Int.reduceEq,Int.reducePow,Int.reduceAdd,Int.reduceSub,Int.reduceNeg,reduceCtorEq] <;> rfl
 rintro k ⟨hk,hak⟩ ihk
 by_cases hkl : k < rs.length
 ·have hkl' : ((k : Int) < (rs.length : Int)) = True := eq_true (by omega)
  have hkw := cC (n := k) (by omega)
  have hgk := jz hkl
  by_cases h5 : rs[k].length ≤ 60
  ·have ihk' := ihk (k + 1) ⟨by omega,fun j hj hjk => by
    by_cases e2 : j < k
    ·exact hak j hj e2
    ·obtain rfl : j = k := by omega
     exact decide_eq_true h5⟩ (by omega)
   have h5' : ((60 : Int) < (rs[k].length : Int)) = False := eq_false (by omega)
   clear ihk hak hE
   generalize rs[k] = P at *
   repeat' (first | (with_reducible refine hY _ ?_;clear hY Y) | ((with_reducible first | refine aX rfl (aR fun K' hK' => aa ?_) | refine hK' _ (ab fun Y hY => aa ?_) | refine ab fun Y hY => aa ?_ | refine ag tk0 a8 (ab fun Y hY => aa ?_));(try clear hK' K');(try dsimp only [aop]);try simp only [go_sem,↓reduceIte,Nat.reduceEqDiff,Nat.reduceLT,Nat.reduceLeDiff,Nat.reduceAdd,Nat.reduceSub,Nat.reduceMul,Nat.reduceBEq,Nat.reduceBNe,Nat.reducePow,Int.reduceToNat,Int.reduceLE,Int.reduceLT,Int.reduceMul,Int.reduceEq,Int.reducePow,Int.reduceAdd,Int.reduceSub,Int.reduceNeg,reduceCtorEq,a8,Tryz.results15,hrf,hkl',hkw,hgk,h5']) | (with_reducible first | refine aI ?_ | refine aP ?_ | refine aS ?_ | refine bi fun K hK => ?_ | refine aD ?_ | refine aC ?_ | refine ay ?_ | refine ah ?_ | refine av ?_) | (with_reducible refine hK _ ?_;clear hK K) | ((with_reducible refine ai ?_ ?_);(· decide)) | (with_reducible refine aV ?_ ?_;(· (try and_intros) <;> first | omega | assumption | (simp only [List.length_append,List.length_map,List.length_cons,List.length_nil] <;> omega))))
   refine bO [1,5] (by simp only [go_sem,↓reduceIte,Nat.reduceEqDiff,Nat.reduceLT,Nat.reduceLeDiff,Nat.reduceAdd,Nat.reduceSub,Nat.reduceMul,Nat.reduceBEq,Nat.reduceBNe,Nat.reducePow,Int.reduceToNat,Int.reduceLE,Int.reduceLT,Int.reduceMul,Int.reduceEq,Int.reducePow,Int.reduceAdd,Int.reduceSub,Int.reduceNeg,reduceCtorEq];exact rfl) ?_
   exact ihk'
  ·rw [qp hkl (decide_eq_false h5)] at hE
   rw [hE]
   have h5' : ((60 : Int) < (rs[k].length : Int)) = True := eq_true (by omega)
   clear ihk hak hE
   generalize rs[k] = P at *
   repeat' (first | (with_reducible refine hY _ ?_;clear hY Y) | ((with_reducible first | refine aX rfl (aR fun K' hK' => aa ?_) | refine hK' _ (ab fun Y hY => aa ?_) | refine ab fun Y hY => aa ?_ | refine ag tk0 a8 (ab fun Y hY => aa ?_) | refine aa ?_ | refine aH ?_);(try clear hK' K');(try dsimp only [aop]);try simp only [go_sem,↓reduceIte,Nat.reduceEqDiff,Nat.reduceLT,Nat.reduceLeDiff,Nat.reduceAdd,Nat.reduceSub,Nat.reduceMul,Nat.reduceBEq,Nat.reduceBNe,Nat.reducePow,Int.reduceToNat,Int.reduceLE,Int.reduceLT,Int.reduceMul,Int.reduceEq,Int.reducePow,Int.reduceAdd,Int.reduceSub,Int.reduceNeg,reduceCtorEq,a8,Tryz.results15,hrf,hkl',hkw,hgk,h5']) | (with_reducible first | refine aI ?_ | refine aP ?_ | refine aS ?_ | refine bi fun K hK => ?_ | refine aD ?_ | refine aQ ?_ | refine aA ?_ | refine ah ?_ | refine av ?_ | refine aL ?_) | (with_reducible refine hK _ ?_;clear hK K) | ((with_reducible refine ai ?_ ?_);(· decide)) | (with_reducible refine aV ?_ ?_;(· (try and_intros) <;> first | omega | assumption | (simp only [List.length_append,List.length_map,List.length_cons,List.length_nil] <;> omega))))
 ·have hkl' : ((k : Int) < (rs.length : Int)) = False := eq_false (by omega)
  rw [hE,qq fun j hj => hak j hj (by omega)]
  clear ihk hak hE
  repeat' (first | (with_reducible refine hY _ ?_;clear hY Y) | ((with_reducible first | refine aX rfl (aR fun K' hK' => aa ?_) | refine hK' _ (ab fun Y hY => aa ?_) | refine ab fun Y hY => aa ?_ | refine ag tk0 a8 (ab fun Y hY => aa ?_) | refine aa ?_ | refine aH ?_);(try clear hK' K');(try dsimp only [aop]);try simp only [go_sem,↓reduceIte,Nat.reduceEqDiff,Nat.reduceLT,Nat.reduceLeDiff,Nat.reduceAdd,Nat.reduceSub,Nat.reduceMul,Nat.reduceBEq,Nat.reduceBNe,Nat.reducePow,Int.reduceToNat,Int.reduceLE,Int.reduceLT,Int.reduceMul,Int.reduceEq,Int.reducePow,Int.reduceAdd,Int.reduceSub,Int.reduceNeg,reduceCtorEq,a8,Tryz.results15,hkl']) | (with_reducible first | refine aI ?_ | refine aP ?_ | refine aS ?_ | refine bi fun K hK => ?_ | refine aC ?_ | refine aO ?_ | refine ax ?_ | refine aL ?_ | refine ar ?_) | (with_reducible refine hK _ ?_;clear hK K) | ((with_reducible refine ai ?_ ?_);(· decide)))
def smC (f : Fo) (c : Crt) : Bool := ltC c && decide (0 ≤ lgF f 400 200)
def cP : Nat → List Nat
 | 0 => [0,1]
 | 1 => [2,3]
 | _ => []
set_option maxRecDepth 100000 in
set_option maxHeartbeats 8000000 in
theorem tj (f : Fo) (c : Crt) (hok : OkF f) (hc : OkC c) : AFn Tryz.prog 7 [.agg (foA f),.agg (vV c)] [] (.c (.bool (smC f c))) [] := by
 have h1 := wP f hok 400 200 (by decide) (by decide) (by decide) (by decide)
 have h2 := q9 c hc
 unfold smC
 generalize lgF f 400 200 = Z at *
 obtain ⟨k,l,ks⟩ := f
 simp only [foA] at h1 ⊢
 generalize cU ks = KS at *
 generalize ltC c = B at *
 cases B
 ·refine bm [] Tryz.func7 rfl Tryz.ntmps7 (Nat.le_of_ble_eq_true rfl) (Nat.le_of_ble_eq_true rfl) fun w0 G0 B0 Pr hB0 => ?_
  simp only [bD,bj,List.cons_append,List.nil_append]
  repeat' (first | (with_reducible refine hY _ ?_;clear hY Y) | ((with_reducible first | refine aX rfl (aR fun K' hK' => aa ?_) | refine hK' _ (ab fun Y hY => aa ?_) | refine aW rfl (ab fun Y hY => aa ?_) | refine ab fun Y hY => aa ?_ | refine ag tk0 cP (ab fun Y hY => aa ?_) | refine aa ?_ | refine aH ?_);(try clear hK' K');(try dsimp only [aop]);try simp only [go_sem,↓reduceIte,Nat.reduceEqDiff,Nat.reduceLT,Nat.reduceLeDiff,Nat.reduceAdd,Nat.reduceSub,Nat.reduceMul,Nat.reduceBEq,Nat.reduceBNe,Nat.reducePow,Int.reduceToNat,Int.reduceLE,Int.reduceLT,Int.reduceMul,Int.reduceEq,Int.reducePow,Int.reduceAdd,Int.reduceSub,Int.reduceNeg,reduceCtorEq,cP,Tryz.results7]) | (with_reducible first | refine aI ?_ | refine am rfl ?_ | refine bg ?_ ?_ | refine aP ?_ | refine aS ?_ | refine bi fun K hK => ?_ | refine aL ?_) | (with_reducible refine hK _ ?_;clear hK K) | ((with_reducible refine aF ?_ ?_);(· decide)) | (with_reducible refine aK (h2) ?_))
 ·rw [Bool.true_and]
  refine bm [] Tryz.func7 rfl Tryz.ntmps7 (Nat.le_of_ble_eq_true rfl) (Nat.le_of_ble_eq_true rfl) fun w0 G0 B0 Pr hB0 => ?_
  simp only [bD,bj,List.cons_append,List.nil_append]
  repeat' (first | (with_reducible refine hY _ ?_;clear hY Y) | ((with_reducible first | refine aX rfl (aR fun K' hK' => aa ?_) | refine hK' _ (ab fun Y hY => aa ?_) | refine aW rfl (ab fun Y hY => aa ?_) | refine ab fun Y hY => aa ?_ | refine aR fun K' hK' => aa ?_ | refine ag tk0 cP (ab fun Y hY => aa ?_) | refine aa ?_ | refine aH ?_);(try clear hK' K');(try dsimp only [aop]);try simp only [go_sem,↓reduceIte,Nat.reduceEqDiff,Nat.reduceLT,Nat.reduceLeDiff,Nat.reduceAdd,Nat.reduceSub,Nat.reduceMul,Nat.reduceBEq,Nat.reduceBNe,Nat.reducePow,Int.reduceToNat,Int.reduceLE,Int.reduceLT,Int.reduceMul,Int.reduceEq,Int.reducePow,Int.reduceAdd,Int.reduceSub,Int.reduceNeg,reduceCtorEq,cP,Tryz.results7]) | (with_reducible first | refine aI ?_ | refine ao ?_ | refine aP ?_ | refine aS ?_ | refine bi fun K hK => ?_ | refine aL ?_) | (with_reducible refine hK _ ?_;clear hK K) | ((with_reducible refine aF ?_ ?_);(· decide)) | (with_reducible refine aK (h2) ?_) | (with_reducible refine aK (h1) ?_))
end Go.Proofs.YtmpdocplcgbpkaaGreatDoor

/- What is amiss with a program's names, in K: the code's Check. -/
import Derived.Test.YtkjnkkmokojnpaaGreatDoorZ21
import Derived.Test.YtkjnkkmokojnpaaGreatDoorZ6
namespace Go.Proofs.YtkjnkkmokojnpaaGreatDoor
set_option linter.unusedSimpArgs false
set_option linter.unusedVariables false
open Go.RowKit
theorem uW (ps : List PP) (k : Nat) (h : k < ps.length) : fF ps k (ps.drop k) = if jE ps k ps[k] = 0 then fF ps (k + 1) (ps.drop (k + 1)) else (jE ps k ps[k],(k : Int)) := by
 rw [List.drop_eq_getElem_cons h,fF]
def cp : Nat → List Nat
 | 0 => [0]
 | 1 => [1]
 | 2 => [1,3]
 | 3 => [3]
 | 4 => [1]
 | 5 => [1,13,14]
 | 6 => [1,13,14]
 | 7 => [1,4,13,14]
 | 8 => [1,4,5,13,14]
 | 9 => [4,5]
 | 10 => [1,13,14]
 | 11 => []
 | _ => []
set_option maxRecDepth 100000 in
set_option maxHeartbeats 64000000 in
theorem ya (ps : List PP) (hps : kL ps) (hb : ∀ x ∈ ps,x.params.length ≤ 50 ∧ x.ghosts.length ≤ 50 ∧ (jK [] x.body).length ≤ 1099511627776) (hS : AFn Tryz.prog 17 [.agg [dN ps]] [] (eM (eL ps)) []) :
  AFn Tryz.prog 10 [.agg [dN ps]] [] (jl (dW ps).1 (dW ps).2) [] := by
 have hpl : ps.length ≤ 140737488351232 := hps.1
 have hfl := gw ps
 obtain ⟨E,A,hEA⟩ : ∃ E A,dW ps = (E,A) := ⟨_,_,rfl⟩
 rw [hEA]
 unfold dW at hEA
 refine aM [] Tryz.func10 rfl Tryz.ntmps10 (Nat.le_of_ble_eq_true rfl) (Nat.le_of_ble_eq_true rfl) fun w0 G0 B0 Pr hB0 => ?_
 simp only [aW,aL,List.cons_append,List.nil_append]
 repeat' (first | (with_reducible refine hY _ ?_; clear hY Y) | ((with_reducible first | refine au rfl (ay fun K' hK' => aa ?_) | refine hK' _ (ab fun Y hY => aa ?_)); (try clear hK' K'); (try dsimp only [aop]); try simp only [go_sem,seval,cp,Tryz.results10]) | (with_reducible first | refine ag ?_ | refine am ?_ | refine aG fun K hK => ?_) | ((with_reducible refine bC 1 ?_ ?_); (· rfl)) | ((with_reducible refine aS 1 tk0 cp ?_ (ab fun Y hY => aa ?_)); (· rfl); (try dsimp only [aop]); try simp only [go_sem,seval,cp,Tryz.results10]) | (with_reducible refine hK _ ?_; clear hK K))
 refine dj 10001 ⟨by decide,by decide⟩ rfl rfl (by simp only [go_sem,seval]; exact rfl) (by simp only [go_sem,seval]; exact rfl) ?_
 by_cases hz : eL ps = 0
 case neg =>
  rw [if_neg hz,Prod.mk.injEq] at hEA
  obtain ⟨rfl,rfl⟩ := hEA
  rw [show jl (eL ps) (-1) = eM (eL ps) from if_pos (.inl (by decide))]
  rw [dq hz] at hS ⊢
  repeat' (first | (with_reducible refine hY _ ?_; clear hY Y) | ((with_reducible first | refine au rfl (ay fun K' hK' => aa ?_) | refine hK' _ (ab fun Y hY => aa ?_) | refine ab fun Y hY => aa ?_ | refine ac tk0 cp (ab fun Y hY => aa ?_) | refine aa ?_ | refine ax ?_); (try clear hK' K'); (try dsimp only [aop]); try simp only [go_sem,seval,cp,Tryz.results10]) | (with_reducible first | refine ag ?_ | refine am ?_ | refine aq ?_ | refine aG fun K hK => ?_ | refine az ?_ | refine bh ?_ | refine aB ?_) | (with_reducible refine hK _ ?_; clear hK K) | ((with_reducible refine ai ?_ ?_); (· decide)) | (with_reducible refine ae (hS) ?_))
  all_goals rfl
 rw [if_pos hz] at hEA
 rw [hz,mK] at hS
 repeat' (first | (with_reducible refine hY _ ?_; clear hY Y) | ((with_reducible first | refine au rfl (ay fun K' hK' => aa ?_) | refine hK' _ (ab fun Y hY => aa ?_) | refine ab fun Y hY => aa ?_ | refine ac tk0 cp (ab fun Y hY => aa ?_) | refine aa ?_); (try clear hK' K'); (try dsimp only [aop]); try simp only [go_sem,seval,cp,Tryz.results10]) | (with_reducible first | refine ag ?_ | refine am ?_ | refine aq ?_ | refine aG fun K hK => ?_ | refine aA ?_ | refine av ?_ | refine aH ?_ | refine bR ?_) | (with_reducible refine hK _ ?_; clear hK K) | ((with_reducible refine ai ?_ ?_); (· decide)) | (with_reducible refine ae (hS) ?_) | (with_reducible refine bv (sW) ?_))
 clear hS hz
 refine bX (α := Nat) (fun k => [(1,.rf [dN ps] 0),(13,inA (ps.length : Int)),(14,inA (k : Int))])
  (fun k => k ≤ ps.length ∧ fF ps k (ps.drop k) = (E,A)) (fun k => ps.length - k) 0 [1,13,14] ?_ ⟨Nat.zero_le _,by rw [List.drop_zero]; exact hEA⟩ ?_
 ·simp only [go_sem,seval] <;> rfl
 rintro k ⟨hk,hrec⟩ ih
 by_cases hlt : k < ps.length
 case neg =>
  have hlt' : ((k : Int) < (ps.length : Int)) = False := eq_false (by omega)
  rw [List.drop_eq_nil_of_le (by omega),fF,Prod.mk.injEq] at hrec
  obtain ⟨rfl,rfl⟩ := hrec
  rw [show jl 0 (-1) = .c .nilIface from rfl]
  clear ih hb
  repeat' (first | (with_reducible refine hY _ ?_; clear hY Y) | ((with_reducible first | refine au rfl (ay fun K' hK' => aa ?_) | refine hK' _ (ab fun Y hY => aa ?_) | refine ab fun Y hY => aa ?_ | refine ac tk0 cp (ab fun Y hY => aa ?_) | refine aa ?_ | refine ax ?_); (try clear hK' K'); (try dsimp only [aop]); try simp only [go_sem,seval,cp,Tryz.results10,hlt']) | (with_reducible first | refine ag ?_ | refine am ?_ | refine aq ?_ | refine aG fun K hK => ?_ | refine aA ?_ | refine bY ?_ | refine bF ?_ | refine aB ?_ | refine bE ?_) | (with_reducible refine hK _ ?_; clear hK K) | ((with_reducible refine ai ?_ ?_); (· decide)))
  all_goals rfl
 have hlt' : ((k : Int) < (ps.length : Int)) = True := eq_true (by omega)
 have hkw := dp (n := k) (by omega)
 rw [uW ps k hlt] at hrec
 obtain ⟨b1,b2,b3⟩ := hb ps[k] (List.getElem_mem hlt)
 have d1 := Do ps hps k hlt b1 b2 b3
 have ihk := fun e => ih (k + 1) ⟨by omega,e⟩ (by omega)
 clear ih hb hEA b1 b2 b3
 generalize jE ps k ps[k] = n at *
 by_cases hn : n = 0
 ·rw [if_pos hn] at hrec
  rw [hn,mK] at d1
  repeat' (first | (with_reducible refine hY _ ?_; clear hY Y) | ((with_reducible first | refine au rfl (ay fun K' hK' => aa ?_) | refine hK' _ (ab fun Y hY => aa ?_) | refine ab fun Y hY => aa ?_ | refine ac tk0 cp (ab fun Y hY => aa ?_) | refine aa ?_); (try clear hK' K'); (try dsimp only [aop]); try simp only [go_sem,seval,cp,Tryz.results10,hlt',hkw]) | (with_reducible first | refine ag ?_ | refine am ?_ | refine aq ?_ | refine aG fun K hK => ?_ | refine az ?_ | refine aA ?_ | refine ba ?_ | refine av ?_ | refine aH ?_) | (with_reducible refine hK _ ?_; clear hK K) | ((with_reducible refine ai ?_ ?_); (· decide)) | (with_reducible refine ae (d1) ?_) | (with_reducible refine bv (sW) ?_))
  refine bg [1,13,14] (by simp only [go_sem,seval]; exact rfl) ?_
  exact ihk hrec
 ·rw [if_neg hn,Prod.mk.injEq] at hrec
  obtain ⟨rfl,rfl⟩ := hrec
  rw [show jl n (k : Int) = kJ (k : Int) n from if_neg (by rintro (h | h) <;> omega)]
  unfold kJ
  rw [dq hn] at d1 ⊢
  clear ihk
  repeat' (first | (with_reducible refine hY _ ?_; clear hY Y) | ((with_reducible first | refine au rfl (ay fun K' hK' => aa ?_) | refine hK' _ (ab fun Y hY => aa ?_) | refine ab fun Y hY => aa ?_ | refine ac tk0 cp (ab fun Y hY => aa ?_) | refine aa ?_ | refine ax ?_); (try clear hK' K'); (try dsimp only [aop]); try simp only [go_sem,seval,cp,Tryz.results10,hlt',hkw]) | (with_reducible first | refine ag ?_ | refine am ?_ | refine aq ?_ | refine aG fun K hK => ?_ | refine az ?_ | refine bh ?_ | refine bp ?_ | refine av ?_ | refine aH ?_ | refine aB ?_) | (with_reducible refine hK _ ?_; clear hK K) | ((with_reducible refine ai ?_ ?_); (· decide)) | (with_reducible refine ae (d1) ?_))
  all_goals rfl
end Go.Proofs.YtkjnkkmokojnpaaGreatDoor

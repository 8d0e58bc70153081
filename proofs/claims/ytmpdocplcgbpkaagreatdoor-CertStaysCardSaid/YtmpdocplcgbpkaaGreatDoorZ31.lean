/- The head's example of layer 10 in K, by the contract of cert.Check. CertStays in K. Certificates, read as arguments. Cert: the laid variable of the rows that tell errors. -/
import Derived.Test.YtmpdocplcgbpkaaGreatDoorZ30
import Derived.Test.YtmpdocplcgbpkaaGreatDoorZ28
import Derived.Test.YtmpdocplcgbpkaaGreatDoorZ9
import Derived.Test.YtmpdocplcgbpkaaGreatDoorZ8
import Derived.Test.YtmpdocplcgbpkaaGreatDoorZ6
import Derived.LaidLaws
import Derived.LaidHandle
import Derived.LaidMore
namespace Go.Proofs.YtmpdocplcgbpkaaGreatDoor
set_option linter.unusedSimpArgs false
set_option linter.unusedVariables false
open Go.RowKit
theorem xX (k : Int) : OkF (.mk k ⟨0,[]⟩ []) := ⟨eP,eP,trivial⟩
theorem vP : jy (.mk 1 ⟨0,[]⟩ []) ⟨[],[[]]⟩ = (0,-1) := by decide +kernel
theorem vQ : jy (.mk 0 ⟨0,[]⟩ []) ⟨[],[[]]⟩ = (9,0) := by decide +kernel
abbrev fK0 (z : Int) : List AV := [inA z,inA 0,.sl [] 0 .full,.sl [] 0 .full]
abbrev cE0 : List AV := [.sl [] 0 .full,.sl [.sl [] 0 .full] 1 .full]
theorem yd : AFn Tryz.prog 8 [.agg (fK0 1),.agg cE0] [] (.c .nilIface) [] := by
 have h := qs (.mk 1 ⟨0,[]⟩ []) ⟨[],[[]]⟩ (xX 1) (fun l hl => absurd hl List.not_mem_nil) (by simp) (by simp) (fun c hc => by simp at hc;subst hc;exact eP)
 rw [vP] at h
 exact gN 8 h rfl
theorem ye : AFn Tryz.prog 8 [.agg (fK0 0),.agg cE0] [] (hI 0 9) [] := by
 have h := qs (.mk 0 ⟨0,[]⟩ []) ⟨[],[[]]⟩ (xX 0) (fun l hl => absurd hl List.not_mem_nil) (by simp) (by simp) (fun c hc => by simp at hc;subst hc;exact eP)
 rw [vQ] at h
 exact gN 8 h rfl
def dJ : Nat → List Nat
 | 0 => []
 | 1 => []
 | 2 => [1]
 | 3 => [1,2]
 | 4 => [2,3]
 | _ => []
theorem zP : IntKind.i64.wrap 0 = 0 := rfl
set_option maxRecDepth 100000 in
set_option maxHeartbeats 8000000 in
theorem vq : AFn Tryz.prog 6 [] [] (.c (.bool true)) [] := by
 have hp := ye
 have hi : AFn Tryz.prog 14 [hI 0 9,inA 0,inA 9] [] (.c (.bool true)) [] := sW 0 0 9 9 (by decide)
 unfold hI at hp hi
 rw [vU] at hp hi
 have hn := yd
 refine bm [] Tryz.func6 rfl Tryz.ntmps6 (Nat.le_of_ble_eq_true rfl) (Nat.le_of_ble_eq_true rfl) fun w0 G0 B0 Pr hB0 => ?_
 simp only [bD,bj,List.cons_append,List.nil_append]
 repeat' (first | (with_reducible refine hY _ ?_;clear hY Y) | ((with_reducible first | refine aX rfl (aR fun K' hK' => aa ?_) | refine hK' _ (ab fun Y hY => aa ?_) | refine aW rfl (ab fun Y hY => aa ?_) | refine ab fun Y hY => aa ?_ | refine aR fun K' hK' => aa ?_ | refine ag tk0 dJ (ab fun Y hY => aa ?_) | refine aa ?_ | refine aH ?_);(try clear hK' K');(try dsimp only [aop]);try simp only [go_sem,↓reduceIte,Nat.reduceEqDiff,Nat.reduceLT,Nat.reduceLeDiff,Nat.reduceAdd,Nat.reduceSub,Nat.reduceMul,Nat.reduceBEq,Nat.reduceBNe,Nat.reducePow,Int.reduceToNat,Int.reduceLE,Int.reduceLT,Int.reduceMul,Int.reduceEq,Int.reducePow,Int.reduceAdd,Int.reduceSub,Int.reduceNeg,reduceCtorEq,dJ,Tryz.results6,zP]) | (with_reducible first | refine aI ?_ | refine ao ?_ | refine aP ?_ | refine aS ?_ | refine bi fun K hK => ?_ | refine aL ?_) | (with_reducible refine hK _ ?_;clear hK K) | ((with_reducible refine aF ?_ ?_);(· decide)) | (with_reducible refine aK (hn) ?_) | (with_reducible refine aK (hp) ?_) | (with_reducible refine aK (hi) ?_) | (with_reducible refine ce (d6) ?_))
end Go.Proofs.YtmpdocplcgbpkaaGreatDoor
namespace Go.Proofs.YtmpdocplcgbpkaaGreatDoor
set_option linter.unusedSimpArgs false
set_option linter.unusedVariables false
open Go.RowKit
theorem zL (e : Nat) (z : Int) : er e z = .c .nilIface ∨ ∃ T X,er e z = .ifc T X ∧ (∀ g,ren g 2 X = X) ∧ ∀ b,cQ b 4 X = false := by
 unfold er
 split
 ·unfold cK
  split
  ·exact .inl rfl
  ·exact .inr ⟨_,_,rfl,fun g => rfl,fun b => rfl⟩
 ·exact .inr ⟨_,_,rfl,fun g => rfl,fun b => rfl⟩
set_option maxRecDepth 100000 in
theorem rI (a b : Bool) : ∀ w,(((pure () : Sem Unit) >>= fun _ => binOp .eql 4 (.bool a) (.bool b)) : Sem Value).run Tryz.prog w = .ok (.bool (a == b)) w := fun w => by
 have ht := Tryz.underlying4
 have h : ∀ d : Nat,(Op.equalIn (d + 2) 4 (.bool a) (.bool b)).run Tryz.prog w = .ok (a == b) w := fun d => by
  simp [Op.equalIn,run_underlying ht]
 have h2 : (binOp .eql 4 (.bool a) (.bool b)).run Tryz.prog w = .ok (.bool (a == b)) w := by
  simp only [binOp]
  simp [Op.equal,Op.maxDepth,h 9998]
 rw [Sem.run_bind]
 exact h2
theorem uz {ls : List Lem} {i : Nat} (h : i < ls.length) : (ls.take (i + 1)).flatMap gJ = (ls.take i).flatMap gJ ++ [di ls[i].lits,jD ls[i].steps] := by
 rw [List.take_succ_eq_append_getElem h,List.flatMap_append]
 simp
theorem yh {ls : List (List Int)} {i : Nat} (h : i < ls.length) : (ls.take (i + 1)).map di = (ls.take i).map di ++ [di ls[i]] := by
 rw [List.take_succ_eq_append_getElem h,List.map_append]
 simp
theorem yZ {f : Fo} {c : Crt} (h : smC f c = true) : (c.lems.length ≤ 40 ∧ c.refute.length ≤ 60 ∧ (∀ l ∈ c.lems,l.lits.length ≤ 40 ∧ l.steps.length ≤ 60) ∧ ∀ r ∈ c.refute,r.length ≤ 60) ∧ 0 ≤ lgF f 400 200 := by
 unfold smC ltC at h
 simp only [Bool.and_eq_true,decide_eq_true_eq] at h
 obtain ⟨⟨h1,h2,h3,h4⟩,h5⟩ := h
 refine ⟨⟨h1,h2,fun l hl => ?_,fun r hr => ?_⟩,h5⟩
 ·have := List.all_eq_true.1 h3 l hl
  unfold ltL at this
  simp only [Bool.and_eq_true,decide_eq_true_eq] at this
  exact ⟨this.1,this.2.1⟩
 ·have := List.all_eq_true.1 h4 r hr
  simpa using this
def aT : Nat → List Nat
 | 0 => [0,1]
 | 1 => [2,3]
 | 2 => [2,3,5]
 | 3 => [2,3,5,6]
 | 4 => [5]
 | 5 => [2,3,5]
 | 6 => [2,3,5,7]
 | 7 => [2,3,5,7,8]
 | 8 => [2,3,5,7,8,9]
 | 9 => [2,3,5,7,8,9]
 | 10 => [2,3,5,7,8,9]
 | 11 => [2,3,5,7,8]
 | 12 => [2,3,5,7,8,10]
 | 13 => [2,3,5,7,8,10]
 | 14 => [2,3,5,7,8,10]
 | 15 => [2,3,5,7,8]
 | 16 => [2,3,5,7,8,11]
 | 17 => [2,3,5,7,8,11,12]
 | 18 => [2,3,5,7,8,11,12,13]
 | 19 => [2,3,5,7,8,11,12,13]
 | 20 => [2,3,5,7,8,11,12,13]
 | 21 => [2,3,5,7,8,11,12,13,14]
 | 22 => [2,3,5,7,8,11,12,13,14]
 | 23 => [2,3,5,7,8,11,12,13,14]
 | 24 => []
 | 25 => [2,3,5,7,8,11,12]
 | 26 => [2,3,5,7,8,11,12,15]
 | 27 => [2,3,5,7,8,11,12,15]
 | 28 => [2,3,5,7,8,11,12,15]
 | 29 => [2,3,5,7,8,11,12,15,16]
 | 30 => [2,3,5,7,8,11,12,15,16]
 | 31 => [2,3,5,7,8,11,12,15,16]
 | 32 => []
 | 33 => [2,5,7,11,12]
 | _ => []
set_option maxRecDepth 100000 in
set_option maxHeartbeats 16000000 in
theorem oV (f : Fo) (c : Crt) (hok : OkF f) (hc : OkC c) : AFn Tryz.prog 4 [.agg (foA f),.agg (vV c)] [] (.c (.bool true)) [] := by
 have hsm := tj f c hok hc
 cases hs : smC f c
 ·rw [hs] at hsm
  obtain ⟨k,⟨l,t⟩,ks⟩ := f
  rw [cZ] at hsm ⊢
  refine bm [] Tryz.func4 rfl Tryz.ntmps4 (Nat.le_of_ble_eq_true rfl) (Nat.le_of_ble_eq_true rfl) fun w0 G0 B0 Pr hB0 => ?_
  simp only [bD,bj,List.cons_append,List.nil_append]
  repeat' (first | (with_reducible refine hY _ ?_;clear hY Y) | ((with_reducible first | refine aX rfl (aR fun K' hK' => aa ?_) | refine hK' _ (ab fun Y hY => aa ?_) | refine ab fun Y hY => aa ?_ | refine ag tk0 aT (ab fun Y hY => aa ?_) | refine aa ?_ | refine aH ?_);(try clear hK' K');(try dsimp only [aop]);try simp only [go_sem,↓reduceIte,Nat.reduceEqDiff,Nat.reduceLT,Nat.reduceLeDiff,Nat.reduceAdd,Nat.reduceSub,Nat.reduceMul,Nat.reduceBEq,Nat.reduceBNe,Nat.reducePow,Int.reduceToNat,Int.reduceLE,Int.reduceLT,Int.reduceMul,Int.reduceEq,Int.reducePow,Int.reduceAdd,Int.reduceSub,Int.reduceNeg,reduceCtorEq,aT,Tryz.results4]) | (with_reducible first | refine aI ?_ | refine aP ?_ | refine aS ?_ | refine bi fun K hK => ?_ | refine aD ?_ | refine aQ ?_ | refine aL ?_) | (with_reducible refine hK _ ?_;clear hK K) | ((with_reducible refine ai ?_ ?_);(· decide)) | (with_reducible refine aK (vq) ?_) | (with_reducible refine aK (hsm) ?_))
 rw [hs] at hsm
 obtain ⟨⟨hb1,hb2,hb3,hb4⟩,hz⟩ := yZ hs
 have hce := qs f c hok (fun l hl => ⟨by have := (hb3 l hl).1;omega,hc.steps l hl⟩) (by omega) (by omega) hc.refs
 have hcp := yg f hok (pQ f 400 200 (by decide) (by decide) hz)
 have hsa := xp f hok
 obtain ⟨ms,rs⟩ := c
 simp only at hb1 hb2 hb3 hb4
 obtain ⟨ERR,hERR⟩ : ∃ ERR,er (jy f ⟨ms,rs⟩).1 (jy f ⟨ms,rs⟩).2 = ERR := ⟨_,rfl⟩
 have herr := zL (jy f ⟨ms,rs⟩).1 (jy f ⟨ms,rs⟩).2
 rw [hERR] at hce herr
 have he3 : ∀ g,ren g 3 ERR = ERR := fun g => by
  rcases herr with h | ⟨T,X,h,h2,_⟩
  ·rw [h];rfl
  ·rw [h];show AV.ifc T (ren g 2 X) = _;rw [h2]
 have he4 : ∀ g,ren g 4 ERR = ERR := fun g => by
  rw [← hERR]
  unfold er
  split
  ·exact pI g 2 _
  ·rfl
 have heh : ∀ b,cQ b 5 ERR = false := fun b => by
  rcases herr with h | ⟨T,X,h,_,h2⟩
  ·rw [h];rfl
  ·rw [h];exact h2 b
 clear hs hz hok hc hERR
 obtain ⟨k,⟨l,t⟩,ks⟩ := f
 rw [cZ] at hsm hce hcp hsa ⊢
 simp only [frm] at hsm hce hcp hsa ⊢
 generalize cU ks = KS at *
 generalize ks.length = kn at *
 refine bm [] Tryz.func4 rfl Tryz.ntmps4 (Nat.le_of_ble_eq_true rfl) (Nat.le_of_ble_eq_true rfl) fun w0 G0 B0 Pr hB0 => ?_
 simp only [bD,bj,List.cons_append,List.nil_append]
 repeat' (first | (with_reducible refine hY _ ?_;clear hY Y) | ((with_reducible first | refine aX rfl (aR fun K' hK' => aa ?_) | refine hK' _ (ab fun Y hY => aa ?_) | refine ab fun Y hY => aa ?_ | refine ag tk0 aT (ab fun Y hY => aa ?_) | refine aa ?_);(try clear hK' K');(try dsimp only [aop]);try simp only [go_sem,↓reduceIte,Nat.reduceEqDiff,Nat.reduceLT,Nat.reduceLeDiff,Nat.reduceAdd,Nat.reduceSub,Nat.reduceMul,Nat.reduceBEq,Nat.reduceBNe,Nat.reducePow,Int.reduceToNat,Int.reduceLE,Int.reduceLT,Int.reduceMul,Int.reduceEq,Int.reducePow,Int.reduceAdd,Int.reduceSub,Int.reduceNeg,reduceCtorEq,aT,Tryz.results4]) | (with_reducible first | refine aI ?_ | refine aP ?_ | refine aS ?_ | refine bi fun K hK => ?_ | refine aC ?_ | refine ah ?_ | refine av ?_ | refine au ?_) | (with_reducible refine hK _ ?_;clear hK K) | ((with_reducible refine ai ?_ ?_);(· decide)) | (with_reducible refine aK (vq) ?_) | (with_reducible refine aK (hsm) ?_) | (with_reducible refine aK (hcp) ?_))
 clear hsm hcp
 have hlf := kd ms
 have hrf : (rs.map di).length = rs.length := List.length_map ..
 refine d5 (dk (b := 10053) (k0 := 10008) (i := 0) 44 (by decide) (by decide) (by decide) rfl rfl rfl) ?_
 refine b7 (α := Nat) (fun i => [(2,.loc 10002 0),(3,.loc 10003 0),(5,.c (.bool true)),(7,.loc 10007 0),(8,.loc 10008 0),(9,inA (i : Int)),(10002,.bc [inA k,inA l,.sl (bn t) t.length .none,.sl KS kn .none] 27),(10003,.bc [gV ms,csA rs] 31),(10007,.bc [inA k,inA l,.sl (bn t) t.length .none,.sl KS kn .none] 27),(10008,.bc [.sl ((ms.take i).flatMap gJ) i (.tok 10053),.sl [] 0 .full] 31),(10053,.bt i 44)])
  (fun i => i ≤ ms.length) (fun i => ms.length - i) 0 [2,3,5,7,8,9] ?_ (Nat.zero_le _) ?_
 ·simp only [go_sem,↓reduceIte,Nat.reduceEqDiff,Nat.reduceLT,Nat.reduceLeDiff,Nat.reduceAdd,Nat.reduceSub,Nat.reduceMul,Nat.reduceBEq,Nat.reduceBNe,Nat.reducePow,Int.reduceToNat,Int.reduceLE,Int.reduceLT,Int.reduceMul,Int.reduceEq,Int.reducePow,Int.reduceAdd,Int.reduceSub,Int.reduceNeg,reduceCtorEq,List.set_cons_succ,List.set_cons_zero] <;> rfl
 intro i hi ih
 by_cases hlt : i < ms.length
 ·have hlt' : ((i : Int) < (ms.length : Int)) = True := eq_true (by omega)
  have hkw := cC (n := i) (by omega)
  have hg0 := kF hlt
  have hg1 := m6 hlt
  obtain ⟨hl1,hl2⟩ := hb3 _ (List.getElem_mem hlt)
  have ih' := ih (i + 1) (by omega) (by omega)
  rw [uz hlt] at ih'
  have htl : ((ms.take i).flatMap gJ).length = i * 2 := by rw [kd,List.length_take];omega
  clear ih hce hsa hb3 hb4
  generalize ms[i] = m at *
  obtain ⟨zs,ss⟩ := m
  simp only at hg0 hg1 hl1 hl2 ih'
  have hzl : (zs.map inA).length = zs.length := List.length_map ..
  have hsl := mo ss
  generalize (ms.take i).flatMap gJ = MT at *
  repeat' (first | (with_reducible refine hY _ ?_;clear hY Y) | ((with_reducible first | refine aX rfl (aR fun K' hK' => aa ?_) | refine hK' _ (ab fun Y hY => aa ?_) | refine ab fun Y hY => aa ?_ | refine ag tk0 aT (ab fun Y hY => aa ?_) | refine aa ?_ | refine aN rfl (ap fun K' hK' => aa ?_) | refine hK' _ _ (ab fun Y hY => aa ?_));(try clear hK' K');(try dsimp only [aop]);try simp only [go_sem,↓reduceIte,Nat.reduceEqDiff,Nat.reduceLT,Nat.reduceLeDiff,Nat.reduceAdd,Nat.reduceSub,Nat.reduceMul,Nat.reduceBEq,Nat.reduceBNe,Nat.reducePow,Int.reduceToNat,Int.reduceLE,Int.reduceLT,Int.reduceMul,Int.reduceEq,Int.reducePow,Int.reduceAdd,Int.reduceSub,Int.reduceNeg,reduceCtorEq,aT,Tryz.results4,hlt',hkw,hg0,hg1,hlf,htl,hzl,hsl]) | (with_reducible first | refine aI ?_ | refine aP ?_ | refine aS ?_ | refine bi fun K hK => ?_ | refine aD ?_ | refine ay ?_ | refine ah ?_ | refine av ?_ | refine aj ?_ | refine bh fun K hK => ?_) | (with_reducible refine hK _ ?_;clear hK K) | (with_reducible refine hK _ _ ?_ ?_;(· kernel_rfl);clear hK K) | ((with_reducible refine ai ?_ ?_);(· decide)) | (with_reducible refine aq tk0 aT ?_ ?_;(· kernel_rfl)) | (with_reducible refine aV ?_ ?_;(· (try and_intros) <;> first | omega | assumption | (simp only [List.length_append,List.length_map,List.length_cons,List.length_nil] <;> omega))) | (with_reducible refine aE ?_))
  refine bO [2,3,5,7,8,9] (by simp only [go_sem,↓reduceIte,Nat.reduceEqDiff,Nat.reduceLT,Nat.reduceLeDiff,Nat.reduceAdd,Nat.reduceSub,Nat.reduceMul,Nat.reduceBEq,Nat.reduceBNe,Nat.reducePow,Int.reduceToNat,Int.reduceLE,Int.reduceLT,Int.reduceMul,Int.reduceEq,Int.reducePow,Int.reduceAdd,Int.reduceSub,Int.reduceNeg,reduceCtorEq];exact rfl) ?_
  exact ih'
 have hlt' : ((i : Int) < (ms.length : Int)) = False := eq_false (by omega)
 obtain rfl : i = ms.length := by omega
 rw [List.take_of_length_le (Nat.le_refl _)]
 clear ih
 repeat' (first | (with_reducible refine hY _ ?_;clear hY Y) | ((with_reducible first | refine aX rfl (aR fun K' hK' => aa ?_) | refine hK' _ (ab fun Y hY => aa ?_) | refine ab fun Y hY => aa ?_ | refine ag tk0 aT (ab fun Y hY => aa ?_));(try clear hK' K');(try dsimp only [aop]);try simp only [go_sem,↓reduceIte,Nat.reduceEqDiff,Nat.reduceLT,Nat.reduceLeDiff,Nat.reduceAdd,Nat.reduceSub,Nat.reduceMul,Nat.reduceBEq,Nat.reduceBNe,Nat.reducePow,Int.reduceToNat,Int.reduceLE,Int.reduceLT,Int.reduceMul,Int.reduceEq,Int.reducePow,Int.reduceAdd,Int.reduceSub,Int.reduceNeg,reduceCtorEq,aT,Tryz.results4,hlt']) | (with_reducible first | refine aI ?_ | refine aP ?_ | refine aS ?_ | refine bi fun K hK => ?_ | refine aC ?_ | refine aO ?_ | refine ax ?_ | refine ah ?_ | refine ar ?_ | refine au ?_) | (with_reducible refine hK _ ?_;clear hK K) | ((with_reducible refine ai ?_ ?_);(· decide)))
 refine d5 (dk (b := 10072) (k0 := 10008) (i := 1) 41 (by decide) (by decide) (by decide) rfl rfl rfl) ?_
 refine b7 (α := Nat) (fun i => [(2,.loc 10002 0),(3,.loc 10003 0),(5,.c (.bool true)),(7,.loc 10007 0),(8,.loc 10008 0),(10,inA (i : Int)),(10002,.bc [inA k,inA l,.sl (bn t) t.length .none,.sl KS kn .none] 27),(10003,.bc [gV ms,csA rs] 31),(10007,.bc [inA k,inA l,.sl (bn t) t.length .none,.sl KS kn .none] 27),(10008,.bc [.sl (ms.flatMap gJ) ms.length (.tok 10053),.sl ((rs.take i).map di) i (.tok 10072)] 31),(10053,.bt ms.length 44),(10072,.bt i 41)])
  (fun i => i ≤ rs.length) (fun i => rs.length - i) 0 [2,3,5,7,8,10] ?_ (Nat.zero_le _) ?_
 ·simp only [go_sem,↓reduceIte,Nat.reduceEqDiff,Nat.reduceLT,Nat.reduceLeDiff,Nat.reduceAdd,Nat.reduceSub,Nat.reduceMul,Nat.reduceBEq,Nat.reduceBNe,Nat.reducePow,Int.reduceToNat,Int.reduceLE,Int.reduceLT,Int.reduceMul,Int.reduceEq,Int.reducePow,Int.reduceAdd,Int.reduceSub,Int.reduceNeg,reduceCtorEq,List.set_cons_succ,List.set_cons_zero] <;> rfl
 clear hlt' hlt hi
 intro i hi ih
 by_cases hlt : i < rs.length
 ·have hlt' : ((i : Int) < (rs.length : Int)) = True := eq_true (by omega)
  have hkw := cC (n := i) (by omega)
  have hg0 := jz hlt
  have hl1 := hb4 _ (List.getElem_mem hlt)
  have ih' := ih (i + 1) (by omega) (by omega)
  rw [yh hlt] at ih'
  have htl : ((rs.take i).map di).length = i := by rw [List.length_map,List.length_take];omega
  clear ih hce hsa hb3 hb4
  generalize rs[i] = zs at *
  have hzl : (zs.map inA).length = zs.length := List.length_map ..
  generalize (rs.take i).map di = MT at *
  repeat' (first | (with_reducible refine hY _ ?_;clear hY Y) | ((with_reducible first | refine aX rfl (aR fun K' hK' => aa ?_) | refine hK' _ (ab fun Y hY => aa ?_) | refine ab fun Y hY => aa ?_ | refine ag tk0 aT (ab fun Y hY => aa ?_) | refine aa ?_ | refine aN rfl (ap fun K' hK' => aa ?_) | refine hK' _ _ (ab fun Y hY => aa ?_));(try clear hK' K');(try dsimp only [aop]);try simp only [go_sem,↓reduceIte,Nat.reduceEqDiff,Nat.reduceLT,Nat.reduceLeDiff,Nat.reduceAdd,Nat.reduceSub,Nat.reduceMul,Nat.reduceBEq,Nat.reduceBNe,Nat.reducePow,Int.reduceToNat,Int.reduceLE,Int.reduceLT,Int.reduceMul,Int.reduceEq,Int.reducePow,Int.reduceAdd,Int.reduceSub,Int.reduceNeg,reduceCtorEq,aT,Tryz.results4,hlt',hkw,hg0,hrf,htl,hzl]) | (with_reducible first | refine aI ?_ | refine aP ?_ | refine aS ?_ | refine bi fun K hK => ?_ | refine aD ?_ | refine ay ?_ | refine ah ?_ | refine av ?_ | refine aj ?_ | refine bh fun K hK => ?_) | (with_reducible refine hK _ ?_;clear hK K) | (with_reducible refine hK _ _ ?_ ?_;(· kernel_rfl);clear hK K) | ((with_reducible refine ai ?_ ?_);(· decide)) | (with_reducible refine aq tk0 aT ?_ ?_;(· kernel_rfl)) | (with_reducible refine aV ?_ ?_;(· (try and_intros) <;> first | omega | assumption | (simp only [List.length_append,List.length_map,List.length_cons,List.length_nil] <;> omega))) | (with_reducible refine aE ?_))
  refine bO [2,3,5,7,8,10] (by simp only [go_sem,↓reduceIte,Nat.reduceEqDiff,Nat.reduceLT,Nat.reduceLeDiff,Nat.reduceAdd,Nat.reduceSub,Nat.reduceMul,Nat.reduceBEq,Nat.reduceBNe,Nat.reducePow,Int.reduceToNat,Int.reduceLE,Int.reduceLT,Int.reduceMul,Int.reduceEq,Int.reducePow,Int.reduceAdd,Int.reduceSub,Int.reduceNeg,reduceCtorEq];exact rfl) ?_
  exact ih'
 have hlt' : ((i : Int) < (rs.length : Int)) = False := eq_false (by omega)
 obtain rfl : i = rs.length := by omega
 rw [List.take_of_length_le (Nat.le_refl _)]
 clear ih
 repeat' (first | (with_reducible refine hY _ ?_;clear hY Y) | ((with_reducible first | refine aX rfl (aR fun K' hK' => aa ?_) | refine hK' _ (ab fun Y hY => aa ?_) | refine ab fun Y hY => aa ?_ | refine ag tk0 aT (ab fun Y hY => aa ?_) | refine aa ?_);(try clear hK' K');(try dsimp only [aop]);try simp only [go_sem,↓reduceIte,Nat.reduceEqDiff,Nat.reduceLT,Nat.reduceLeDiff,Nat.reduceAdd,Nat.reduceSub,Nat.reduceMul,Nat.reduceBEq,Nat.reduceBNe,Nat.reducePow,Int.reduceToNat,Int.reduceLE,Int.reduceLT,Int.reduceMul,Int.reduceEq,Int.reducePow,Int.reduceAdd,Int.reduceSub,Int.reduceNeg,reduceCtorEq,aT,Tryz.results4,hlt',he4,he3,heh]) | (with_reducible first | refine aI ?_ | refine aP ?_ | refine aS ?_ | refine bi fun K hK => ?_ | refine aC ?_ | refine aO ?_ | refine ax ?_ | refine ah ?_ | refine ar ?_ | refine au ?_) | (with_reducible refine hK _ ?_;clear hK K) | ((with_reducible refine ai ?_ ?_);(· decide)) | (with_reducible refine aK (dd hce ?_) ?_;(· simp [c6])))
 clear hlt' hlt hi hce
 refine b7 (α := Nat) (fun i => [(2,.loc 10002 0),(3,.loc 10003 0),(5,.c (.bool true)),(7,.loc 10007 0),(8,.loc 10008 0),(11,ERR),(12,ERR),(13,inA (i : Int)),(10002,.bc [inA k,inA l,.sl (bn t) t.length .none,.sl KS kn .none] 27),(10003,.bc [gV ms,csA rs] 31),(10007,.bc [inA k,inA l,.sl (bn t) t.length .none,.sl KS kn .none] 27),(10008,.bc [.sl (ms.flatMap gJ) ms.length (.tok 10053),.sl (rs.map di) rs.length (.tok 10072)] 31),(10053,.bt ms.length 44),(10072,.bt rs.length 41)])
  (fun i => i ≤ ms.length) (fun i => ms.length - i) 0 [2,3,5,7,8,11,12,13] ?_ (Nat.zero_le _) ?_
 ·simp only [go_sem,↓reduceIte,Nat.reduceEqDiff,Nat.reduceLT,Nat.reduceLeDiff,Nat.reduceAdd,Nat.reduceSub,Nat.reduceMul,Nat.reduceBEq,Nat.reduceBNe,Nat.reducePow,Int.reduceToNat,Int.reduceLE,Int.reduceLT,Int.reduceMul,Int.reduceEq,Int.reducePow,Int.reduceAdd,Int.reduceSub,Int.reduceNeg,reduceCtorEq,heh] <;> rfl
 intro i hi ih
 by_cases hlt : i < ms.length
 ·have hlt' : ((i : Int) < (ms.length : Int)) = True := eq_true (by omega)
  have hkw := cC (n := i) (by omega)
  have hg0 := kF hlt
  obtain ⟨hl1,hl2⟩ := hb3 _ (List.getElem_mem hlt)
  have ih' := ih (i + 1) (by omega) (by omega)
  clear ih hsa hb3 hb4
  generalize ms[i].lits = zs at *
  have hzl : (zs.map inA).length = zs.length := List.length_map ..
  repeat' (first | (with_reducible refine hY _ ?_;clear hY Y) | ((with_reducible first | refine aX rfl (aR fun K' hK' => aa ?_) | refine hK' _ (ab fun Y hY => aa ?_) | refine ab fun Y hY => aa ?_ | refine ag tk0 aT (ab fun Y hY => aa ?_));(try clear hK' K');(try dsimp only [aop]);try simp only [go_sem,↓reduceIte,Nat.reduceEqDiff,Nat.reduceLT,Nat.reduceLeDiff,Nat.reduceAdd,Nat.reduceSub,Nat.reduceMul,Nat.reduceBEq,Nat.reduceBNe,Nat.reducePow,Int.reduceToNat,Int.reduceLE,Int.reduceLT,Int.reduceMul,Int.reduceEq,Int.reducePow,Int.reduceAdd,Int.reduceSub,Int.reduceNeg,reduceCtorEq,aT,Tryz.results4,hlt',heh]) | (with_reducible first | refine aI ?_ | refine aP ?_ | refine aS ?_ | refine bi fun K hK => ?_ | refine aD ?_ | refine ah ?_ | refine av ?_ | refine au ?_) | (with_reducible refine hK _ ?_;clear hK K) | ((with_reducible refine ai ?_ ?_);(· decide)))
  refine b7 (α := Nat) (fun j => [(2,.loc 10002 0),(3,.loc 10003 0),(5,.c (.bool true)),(7,.loc 10007 0),(8,.loc 10008 0),(11,ERR),(12,ERR),(13,inA (i : Int)),(14,inA (j : Int)),(10002,.bc [inA k,inA l,.sl (bn t) t.length .none,.sl KS kn .none] 27),(10003,.bc [gV ms,csA rs] 31),(10007,.bc [inA k,inA l,.sl (bn t) t.length .none,.sl KS kn .none] 27),(10008,.bc [.sl (ms.flatMap gJ) ms.length (.tok 10053),.sl (rs.map di) rs.length (.tok 10072)] 31),(10053,.bt ms.length 44),(10072,.bt rs.length 41)])
   (fun j => j ≤ zs.length) (fun j => zs.length - j) 0 [2,3,5,7,8,11,12,13,14] ?_ (Nat.zero_le _) ?_
  ·simp only [go_sem,↓reduceIte,Nat.reduceEqDiff,Nat.reduceLT,Nat.reduceLeDiff,Nat.reduceAdd,Nat.reduceSub,Nat.reduceMul,Nat.reduceBEq,Nat.reduceBNe,Nat.reducePow,Int.reduceToNat,Int.reduceLE,Int.reduceLT,Int.reduceMul,Int.reduceEq,Int.reducePow,Int.reduceAdd,Int.reduceSub,Int.reduceNeg,reduceCtorEq,heh] <;> rfl
  intro j hj ihj
  by_cases hjl : j < zs.length
  ·have hjl' : ((j : Int) < (zs.length : Int)) = True := eq_true (by omega)
   have hjw := cC (n := j) (by omega)
   have hgj := mZ hjl
   have ihj' := ihj (j + 1) (by omega) (by omega)
   clear ihj ih'
   generalize zs[j] = z at *
   repeat' (first | (with_reducible refine hY _ ?_;clear hY Y) | ((with_reducible first | refine aX rfl (aR fun K' hK' => aa ?_) | refine hK' _ (ab fun Y hY => aa ?_) | refine ab fun Y hY => aa ?_ | refine ag tk0 aT (ab fun Y hY => aa ?_) | refine aN rfl (ap fun K' hK' => aa ?_) | refine hK' _ _ (ab fun Y hY => aa ?_));(try clear hK' K');(try dsimp only [aop]);try simp only [go_sem,↓reduceIte,Nat.reduceEqDiff,Nat.reduceLT,Nat.reduceLeDiff,Nat.reduceAdd,Nat.reduceSub,Nat.reduceMul,Nat.reduceBEq,Nat.reduceBNe,Nat.reducePow,Int.reduceToNat,Int.reduceLE,Int.reduceLT,Int.reduceMul,Int.reduceEq,Int.reducePow,Int.reduceAdd,Int.reduceSub,Int.reduceNeg,reduceCtorEq,aT,Tryz.results4,hlt',hjl',hlf,hg0,hzl,hgj,hjw,heh]) | (with_reducible first | refine aI ?_ | refine aP ?_ | refine aS ?_ | refine bi fun K hK => ?_ | refine aD ?_ | refine aC ?_ | refine ay ?_ | refine ah ?_ | refine av ?_ | refine aj ?_ | refine bh fun K hK => ?_) | (with_reducible refine hK _ ?_;clear hK K) | (with_reducible refine hK _ _ ?_ ?_;(· kernel_rfl);clear hK K) | ((with_reducible refine ai ?_ ?_);(· decide)) | (with_reducible refine aq tk0 aT ?_ ?_;(· kernel_rfl)) | (with_reducible refine aV ?_ ?_;(· (try and_intros) <;> first | omega | assumption | (simp only [List.length_append,List.length_map,List.length_cons,List.length_nil] <;> omega))))
   refine bO [2,3,5,7,8,11,12,13,14] (by simp only [go_sem,↓reduceIte,Nat.reduceEqDiff,Nat.reduceLT,Nat.reduceLeDiff,Nat.reduceAdd,Nat.reduceSub,Nat.reduceMul,Nat.reduceBEq,Nat.reduceBNe,Nat.reducePow,Int.reduceToNat,Int.reduceLE,Int.reduceLT,Int.reduceMul,Int.reduceEq,Int.reducePow,Int.reduceAdd,Int.reduceSub,Int.reduceNeg,reduceCtorEq,heh];exact rfl) ?_
   exact ihj'
  ·have hjl' : ((j : Int) < (zs.length : Int)) = False := eq_false (by omega)
   clear ihj
   repeat' (first | (with_reducible refine hY _ ?_;clear hY Y) | ((with_reducible first | refine aX rfl (aR fun K' hK' => aa ?_) | refine hK' _ (ab fun Y hY => aa ?_) | refine ab fun Y hY => aa ?_ | refine ag tk0 aT (ab fun Y hY => aa ?_));(try clear hK' K');(try dsimp only [aop]);try simp only [go_sem,↓reduceIte,Nat.reduceEqDiff,Nat.reduceLT,Nat.reduceLeDiff,Nat.reduceAdd,Nat.reduceSub,Nat.reduceMul,Nat.reduceBEq,Nat.reduceBNe,Nat.reducePow,Int.reduceToNat,Int.reduceLE,Int.reduceLT,Int.reduceMul,Int.reduceEq,Int.reducePow,Int.reduceAdd,Int.reduceSub,Int.reduceNeg,reduceCtorEq,aT,Tryz.results4,hlt',hjl',hlf,hg0,hzl,hkw,heh]) | (with_reducible first | refine aI ?_ | refine aP ?_ | refine aS ?_ | refine bi fun K hK => ?_ | refine aC ?_ | refine aO ?_ | refine ay ?_ | refine ax ?_ | refine ar ?_) | (with_reducible refine hK _ ?_;clear hK K) | ((with_reducible refine ai ?_ ?_);(· decide)) | (with_reducible refine aV ?_ ?_;(· (try and_intros) <;> first | omega | assumption | (simp only [List.length_append,List.length_map,List.length_cons,List.length_nil] <;> omega))))
   refine bO [2,3,5,7,8,11,12,13] (by simp only [go_sem,↓reduceIte,Nat.reduceEqDiff,Nat.reduceLT,Nat.reduceLeDiff,Nat.reduceAdd,Nat.reduceSub,Nat.reduceMul,Nat.reduceBEq,Nat.reduceBNe,Nat.reducePow,Int.reduceToNat,Int.reduceLE,Int.reduceLT,Int.reduceMul,Int.reduceEq,Int.reducePow,Int.reduceAdd,Int.reduceSub,Int.reduceNeg,reduceCtorEq,heh];exact rfl) ?_
   exact ih'
 have hlt' : ((i : Int) < (ms.length : Int)) = False := eq_false (by omega)
 clear ih
 repeat' (first | (with_reducible refine hY _ ?_;clear hY Y) | ((with_reducible first | refine aX rfl (aR fun K' hK' => aa ?_) | refine hK' _ (ab fun Y hY => aa ?_) | refine ab fun Y hY => aa ?_ | refine ag tk0 aT (ab fun Y hY => aa ?_));(try clear hK' K');(try dsimp only [aop]);try simp only [go_sem,↓reduceIte,Nat.reduceEqDiff,Nat.reduceLT,Nat.reduceLeDiff,Nat.reduceAdd,Nat.reduceSub,Nat.reduceMul,Nat.reduceBEq,Nat.reduceBNe,Nat.reducePow,Int.reduceToNat,Int.reduceLE,Int.reduceLT,Int.reduceMul,Int.reduceEq,Int.reducePow,Int.reduceAdd,Int.reduceSub,Int.reduceNeg,reduceCtorEq,aT,Tryz.results4,hlt',heh]) | (with_reducible first | refine aI ?_ | refine aP ?_ | refine aS ?_ | refine bi fun K hK => ?_ | refine aC ?_ | refine aO ?_ | refine ax ?_ | refine ah ?_ | refine ar ?_ | refine au ?_) | (with_reducible refine hK _ ?_;clear hK K) | ((with_reducible refine ai ?_ ?_);(· decide)))
 refine b7 (α := Nat) (fun i => [(2,.loc 10002 0),(3,.loc 10003 0),(5,.c (.bool true)),(7,.loc 10007 0),(8,.loc 10008 0),(11,ERR),(12,ERR),(15,inA (i : Int)),(10002,.bc [inA k,inA l,.sl (bn t) t.length .none,.sl KS kn .none] 27),(10003,.bc [gV ms,csA rs] 31),(10007,.bc [inA k,inA l,.sl (bn t) t.length .none,.sl KS kn .none] 27),(10008,.bc [.sl (ms.flatMap gJ) ms.length (.tok 10053),.sl (rs.map di) rs.length (.tok 10072)] 31),(10053,.bt ms.length 44),(10072,.bt rs.length 41)])
  (fun i => i ≤ rs.length) (fun i => rs.length - i) 0 [2,3,5,7,8,11,12,15] ?_ (Nat.zero_le _) ?_
 ·simp only [go_sem,↓reduceIte,Nat.reduceEqDiff,Nat.reduceLT,Nat.reduceLeDiff,Nat.reduceAdd,Nat.reduceSub,Nat.reduceMul,Nat.reduceBEq,Nat.reduceBNe,Nat.reducePow,Int.reduceToNat,Int.reduceLE,Int.reduceLT,Int.reduceMul,Int.reduceEq,Int.reducePow,Int.reduceAdd,Int.reduceSub,Int.reduceNeg,reduceCtorEq,heh] <;> rfl
 clear hlt' hlt hi
 intro i hi ih
 by_cases hlt : i < rs.length
 ·have hlt' : ((i : Int) < (rs.length : Int)) = True := eq_true (by omega)
  have hkw := cC (n := i) (by omega)
  have hg0 := jz hlt
  have hl1 := hb4 _ (List.getElem_mem hlt)
  have ih' := ih (i + 1) (by omega) (by omega)
  clear ih hsa hb3 hb4
  generalize rs[i] = zs at *
  have hzl : (zs.map inA).length = zs.length := List.length_map ..
  repeat' (first | (with_reducible refine hY _ ?_;clear hY Y) | ((with_reducible first | refine aX rfl (aR fun K' hK' => aa ?_) | refine hK' _ (ab fun Y hY => aa ?_) | refine ab fun Y hY => aa ?_ | refine ag tk0 aT (ab fun Y hY => aa ?_));(try clear hK' K');(try dsimp only [aop]);try simp only [go_sem,↓reduceIte,Nat.reduceEqDiff,Nat.reduceLT,Nat.reduceLeDiff,Nat.reduceAdd,Nat.reduceSub,Nat.reduceMul,Nat.reduceBEq,Nat.reduceBNe,Nat.reducePow,Int.reduceToNat,Int.reduceLE,Int.reduceLT,Int.reduceMul,Int.reduceEq,Int.reducePow,Int.reduceAdd,Int.reduceSub,Int.reduceNeg,reduceCtorEq,aT,Tryz.results4,hlt',heh]) | (with_reducible first | refine aI ?_ | refine aP ?_ | refine aS ?_ | refine bi fun K hK => ?_ | refine aD ?_ | refine ah ?_ | refine av ?_ | refine au ?_) | (with_reducible refine hK _ ?_;clear hK K) | ((with_reducible refine ai ?_ ?_);(· decide)))
  refine b7 (α := Nat) (fun j => [(2,.loc 10002 0),(3,.loc 10003 0),(5,.c (.bool true)),(7,.loc 10007 0),(8,.loc 10008 0),(11,ERR),(12,ERR),(15,inA (i : Int)),(16,inA (j : Int)),(10002,.bc [inA k,inA l,.sl (bn t) t.length .none,.sl KS kn .none] 27),(10003,.bc [gV ms,csA rs] 31),(10007,.bc [inA k,inA l,.sl (bn t) t.length .none,.sl KS kn .none] 27),(10008,.bc [.sl (ms.flatMap gJ) ms.length (.tok 10053),.sl (rs.map di) rs.length (.tok 10072)] 31),(10053,.bt ms.length 44),(10072,.bt rs.length 41)])
   (fun j => j ≤ zs.length) (fun j => zs.length - j) 0 [2,3,5,7,8,11,12,15,16] ?_ (Nat.zero_le _) ?_
  ·simp only [go_sem,↓reduceIte,Nat.reduceEqDiff,Nat.reduceLT,Nat.reduceLeDiff,Nat.reduceAdd,Nat.reduceSub,Nat.reduceMul,Nat.reduceBEq,Nat.reduceBNe,Nat.reducePow,Int.reduceToNat,Int.reduceLE,Int.reduceLT,Int.reduceMul,Int.reduceEq,Int.reducePow,Int.reduceAdd,Int.reduceSub,Int.reduceNeg,reduceCtorEq,heh] <;> rfl
  intro j hj ihj
  by_cases hjl : j < zs.length
  ·have hjl' : ((j : Int) < (zs.length : Int)) = True := eq_true (by omega)
   have hjw := cC (n := j) (by omega)
   have hgj := mZ hjl
   have ihj' := ihj (j + 1) (by omega) (by omega)
   clear ihj ih'
   generalize zs[j] = z at *
   repeat' (first | (with_reducible refine hY _ ?_;clear hY Y) | ((with_reducible first | refine aX rfl (aR fun K' hK' => aa ?_) | refine hK' _ (ab fun Y hY => aa ?_) | refine ab fun Y hY => aa ?_ | refine ag tk0 aT (ab fun Y hY => aa ?_) | refine aN rfl (ap fun K' hK' => aa ?_) | refine hK' _ _ (ab fun Y hY => aa ?_));(try clear hK' K');(try dsimp only [aop]);try simp only [go_sem,↓reduceIte,Nat.reduceEqDiff,Nat.reduceLT,Nat.reduceLeDiff,Nat.reduceAdd,Nat.reduceSub,Nat.reduceMul,Nat.reduceBEq,Nat.reduceBNe,Nat.reducePow,Int.reduceToNat,Int.reduceLE,Int.reduceLT,Int.reduceMul,Int.reduceEq,Int.reducePow,Int.reduceAdd,Int.reduceSub,Int.reduceNeg,reduceCtorEq,aT,Tryz.results4,hlt',hjl',hrf,hg0,hzl,hgj,hjw,heh]) | (with_reducible first | refine aI ?_ | refine aP ?_ | refine aS ?_ | refine bi fun K hK => ?_ | refine aD ?_ | refine aC ?_ | refine ay ?_ | refine ah ?_ | refine av ?_ | refine aj ?_ | refine bh fun K hK => ?_) | (with_reducible refine hK _ ?_;clear hK K) | (with_reducible refine hK _ _ ?_ ?_;(· kernel_rfl);clear hK K) | ((with_reducible refine ai ?_ ?_);(· decide)) | (with_reducible refine aq tk0 aT ?_ ?_;(· kernel_rfl)) | (with_reducible refine aV ?_ ?_;(· (try and_intros) <;> first | omega | assumption | (simp only [List.length_append,List.length_map,List.length_cons,List.length_nil] <;> omega))))
   refine bO [2,3,5,7,8,11,12,15,16] (by simp only [go_sem,↓reduceIte,Nat.reduceEqDiff,Nat.reduceLT,Nat.reduceLeDiff,Nat.reduceAdd,Nat.reduceSub,Nat.reduceMul,Nat.reduceBEq,Nat.reduceBNe,Nat.reducePow,Int.reduceToNat,Int.reduceLE,Int.reduceLT,Int.reduceMul,Int.reduceEq,Int.reducePow,Int.reduceAdd,Int.reduceSub,Int.reduceNeg,reduceCtorEq,heh];exact rfl) ?_
   exact ihj'
  ·have hjl' : ((j : Int) < (zs.length : Int)) = False := eq_false (by omega)
   clear ihj
   repeat' (first | (with_reducible refine hY _ ?_;clear hY Y) | ((with_reducible first | refine aX rfl (aR fun K' hK' => aa ?_) | refine hK' _ (ab fun Y hY => aa ?_) | refine ab fun Y hY => aa ?_ | refine ag tk0 aT (ab fun Y hY => aa ?_));(try clear hK' K');(try dsimp only [aop]);try simp only [go_sem,↓reduceIte,Nat.reduceEqDiff,Nat.reduceLT,Nat.reduceLeDiff,Nat.reduceAdd,Nat.reduceSub,Nat.reduceMul,Nat.reduceBEq,Nat.reduceBNe,Nat.reducePow,Int.reduceToNat,Int.reduceLE,Int.reduceLT,Int.reduceMul,Int.reduceEq,Int.reducePow,Int.reduceAdd,Int.reduceSub,Int.reduceNeg,reduceCtorEq,aT,Tryz.results4,hlt',hjl',hrf,hg0,hzl,hkw,heh]) | (with_reducible first | refine aI ?_ | refine aP ?_ | refine aS ?_ | refine bi fun K hK => ?_ | refine aC ?_ | refine aO ?_ | refine ay ?_ | refine ax ?_ | refine ar ?_) | (with_reducible refine hK _ ?_;clear hK K) | ((with_reducible refine ai ?_ ?_);(· decide)) | (with_reducible refine aV ?_ ?_;(· (try and_intros) <;> first | omega | assumption | (simp only [List.length_append,List.length_map,List.length_cons,List.length_nil] <;> omega))))
   refine bO [2,3,5,7,8,11,12,15] (by simp only [go_sem,↓reduceIte,Nat.reduceEqDiff,Nat.reduceLT,Nat.reduceLeDiff,Nat.reduceAdd,Nat.reduceSub,Nat.reduceMul,Nat.reduceBEq,Nat.reduceBNe,Nat.reducePow,Int.reduceToNat,Int.reduceLE,Int.reduceLT,Int.reduceMul,Int.reduceEq,Int.reducePow,Int.reduceAdd,Int.reduceSub,Int.reduceNeg,reduceCtorEq,heh];exact rfl) ?_
   exact ih'
 have hlt' : ((i : Int) < (rs.length : Int)) = False := eq_false (by omega)
 clear ih
 rcases herr with rfl | ⟨T,X,rfl,hX1,hX2⟩
 ·repeat' (first | (with_reducible refine hY _ ?_;clear hY Y) | ((with_reducible first | refine aX rfl (aR fun K' hK' => aa ?_) | refine hK' _ (ab fun Y hY => aa ?_) | refine ab fun Y hY => aa ?_ | refine ag tk0 aT (ab fun Y hY => aa ?_) | refine aa ?_ | refine aH ?_ | refine aN rfl (ap fun K' hK' => aa ?_) | refine hK' _ _ (ab fun Y hY => aa ?_) | refine aM rfl (ab fun Y hY => aa ?_) | refine ap fun K' hK' => aa ?_);(try clear hK' K');(try dsimp only [aop]);try simp only [go_sem,↓reduceIte,Nat.reduceEqDiff,Nat.reduceLT,Nat.reduceLeDiff,Nat.reduceAdd,Nat.reduceSub,Nat.reduceMul,Nat.reduceBEq,Nat.reduceBNe,Nat.reducePow,Int.reduceToNat,Int.reduceLE,Int.reduceLT,Int.reduceMul,Int.reduceEq,Int.reducePow,Int.reduceAdd,Int.reduceSub,Int.reduceNeg,reduceCtorEq,aT,Tryz.results4,hlt',heh]) | (with_reducible first | refine aI ?_ | refine ao ?_ | refine aP ?_ | refine aS ?_ | refine bi fun K hK => ?_ | refine aC ?_ | refine aO ?_ | refine ax ?_ | refine aL ?_ | refine ar ?_ | refine aj ?_ | refine bh fun K hK => ?_) | (with_reducible refine hK _ ?_;clear hK K) | (with_reducible refine hK _ _ ?_ ?_;(· kernel_rfl);clear hK K) | ((with_reducible first | refine aF ?_ ?_ | refine ai ?_ ?_);(· decide)) | (with_reducible refine aq tk0 aT ?_ ?_;(· kernel_rfl)) | (with_reducible refine aK (hsa) ?_) | (with_reducible refine ce (d6) ?_) | (with_reducible refine ce (rI _ _) ?_))
 ·repeat' (first | (with_reducible refine hY _ ?_;clear hY Y) | ((with_reducible first | refine aX rfl (aR fun K' hK' => aa ?_) | refine hK' _ (ab fun Y hY => aa ?_) | refine ab fun Y hY => aa ?_ | refine ag tk0 aT (ab fun Y hY => aa ?_) | refine aa ?_ | refine aH ?_ | refine aN rfl (ap fun K' hK' => aa ?_) | refine hK' _ _ (ab fun Y hY => aa ?_) | refine aM rfl (ab fun Y hY => aa ?_) | refine ap fun K' hK' => aa ?_);(try clear hK' K');(try dsimp only [aop]);try simp only [go_sem,↓reduceIte,Nat.reduceEqDiff,Nat.reduceLT,Nat.reduceLeDiff,Nat.reduceAdd,Nat.reduceSub,Nat.reduceMul,Nat.reduceBEq,Nat.reduceBNe,Nat.reducePow,Int.reduceToNat,Int.reduceLE,Int.reduceLT,Int.reduceMul,Int.reduceEq,Int.reducePow,Int.reduceAdd,Int.reduceSub,Int.reduceNeg,reduceCtorEq,aT,Tryz.results4,hlt',heh,hX1,hX2]) | (with_reducible first | refine aI ?_ | refine ao ?_ | refine aP ?_ | refine aS ?_ | refine bi fun K hK => ?_ | refine aC ?_ | refine aO ?_ | refine ax ?_ | refine aL ?_ | refine ar ?_ | refine aj ?_ | refine bh fun K hK => ?_) | (with_reducible refine hK _ ?_;clear hK K) | (with_reducible refine hK _ _ ?_ ?_;(· kernel_rfl);clear hK K) | ((with_reducible first | refine aF ?_ ?_ | refine ai ?_ ?_);(· decide)) | (with_reducible refine aq tk0 aT ?_ ?_;(· kernel_rfl)) | (with_reducible refine aK (hsa) ?_) | (with_reducible refine ce (rI _ _) ?_))
end Go.Proofs.YtmpdocplcgbpkaaGreatDoor
namespace Go.Proofs.YtmpdocplcgbpkaaGreatDoor
set_option linter.unusedSimpArgs false
set_option linter.unusedVariables false
open Go.RowKit Go.ChangeShapes Go.WideShapes
instance : Inhabited Stp := ⟨⟨[],0⟩⟩
instance : Inhabited Lem := ⟨⟨[],[]⟩⟩
section
variable {H : Type} {enc : TypeId × Value → H} {w : World} {base : Nat} {spare : Nat → Bool} {held : Bool}
theorem xf (fuel : Nat) : Reads enc Tryz.prog w base spare held 181 tmA (fun _ => True) fuel :=
 (ef Tryz.underlying181 rfl (n0 := 1) (by kernel_rfl) rfl (n1 := 1) (by kernel_rfl) (by kernel_rfl) (fun n _ => pG n) (fun n _ => pG n)).map id (fun _ => rfl) fun _ _ => trivial
theorem xh (fuel : Nat) : Reads enc Tryz.prog w base spare held 83 mn (fun s => Lg s.parts) fuel :=
 (ef Tryz.underlying83 rfl (n0 := 1) (by kernel_rfl) rfl (n1 := 1) (by kernel_rfl) (by kernel_rfl)
  (fun n _ => eE Tryz.underlying81 (s := 2) (by kernel_rfl) (of_decide_eq_true (by kernel_rfl)) (by decide) (fun _ => rfl) fun n _ => xf n) (fun n _ => pG n)).map (fun p => (⟨p.1,p.2⟩ : Stp)) (fun p => by show [AV.sl (bn p.1) p.1.length .none,inA p.2] = _;rw [ee];rfl)
  fun _ h => m7 (of_decide_eq_true (by kernel_rfl)) h.1.2
theorem uX (fuel : Nat) : Reads enc Tryz.prog w base spare held 42 (fun l => [jD l]) oM fuel :=
 (eE Tryz.underlying42 (s := 2) (by kernel_rfl) (of_decide_eq_true (by kernel_rfl)) (by decide) (fun _ => rfl) fun n _ => xh n).map id (fun _ => rfl) fun _ h => ⟨m7 (of_decide_eq_true (by kernel_rfl)) h.2,h.1⟩
theorem pF (fuel : Nat) : Reads enc Tryz.prog w base spare held 41 (fun c : List Int => [.sl (c.map inA) c.length .none]) Lg fuel :=
 (eE Tryz.underlying41 (s := 1) (by kernel_rfl) (of_decide_eq_true (by kernel_rfl)) (by decide) (fun _ => rfl) fun n _ => pG n).map id (fun l => by rw [← nQ inA l];rfl)
  fun l h => m7 (of_decide_eq_true (by kernel_rfl)) h.2
theorem yM (fuel : Nat) : Reads enc Tryz.prog w base spare held 44 gJ (fun l => Lg l.lits ∧ oM l.steps) fuel :=
 (ef Tryz.underlying44 rfl (n0 := 1) (by kernel_rfl) rfl (n1 := 1) (by kernel_rfl) (by kernel_rfl)
  (fun n _ => pF n) (fun n _ => uX n)).map (fun p => (⟨p.1,p.2⟩ : Lem)) (fun p => rfl) fun _ h => h
theorem xg (fuel : Nat) : Reads enc Tryz.prog w base spare held 29 (fun l : List (List Int) => [csA l]) (fun l => Lg l ∧ ∀ c ∈ l,Lg c) fuel :=
 (eE Tryz.underlying29 (s := 1) (by kernel_rfl) (of_decide_eq_true (by kernel_rfl)) (by decide) (fun _ => rfl) fun n _ => pF n).map id (fun l => by rw [← nQ di l];rfl)
  fun l h => ⟨m7 (of_decide_eq_true (by kernel_rfl)) h.2,h.1⟩
theorem xc (fuel : Nat) : Reads enc Tryz.prog w base spare held 31 vV OkC fuel :=
 (ef Tryz.underlying31 rfl (n0 := 1) (by kernel_rfl) rfl (n1 := 1) (by kernel_rfl) (by kernel_rfl)
  (fun n _ => eE Tryz.underlying28 (s := 2) (by kernel_rfl) (of_decide_eq_true (by kernel_rfl)) (by decide) (fun _ => rfl) fun n _ => yM n) (fun n _ => xg n)).map (fun p => (⟨p.1,p.2⟩ : Crt)) (fun p => rfl)
  fun p h => ⟨m7 (of_decide_eq_true (by kernel_rfl)) h.1.2,fun l hl => (h.1.1 l hl).1,fun l hl => (h.1.1 l hl).2,h.2.1,h.2.2⟩
end
end Go.Proofs.YtmpdocplcgbpkaaGreatDoor
namespace Go.Proofs.YtmpdocplcgbpkaaGreatDoor
set_option linter.unusedSimpArgs false
set_option linter.unusedVariables false
open Go.RowKit Go.ChangeShapes Go.WideShapes
theorem rb {w : World} {g : Nat} {v : Value} {x : AV} (hc : w.cell? ⟨g,0,none⟩ = some v) (h1 : v.oneCell' = true) (h : PRel (iO w) v x) : PRel (iO w) (.pointer (some ⟨g,0,none⟩)) (.rf [x] 0) :=
 .rf g 0 0 [x] (fun _ => v) (fun j hj => by
  obtain rfl : j = 0 := by simpa using hj
  exact sB hc h1) fun j hj => by
  obtain rfl : j = 0 := by simpa using hj
  exact h
theorem zg : Tryz.prog.globalNamed "errors.errorType" = some 0 := by kernel_rfl
theorem rt_row : (Tryz.prog.cutTypes.find? (·.1 == "internal/reflectlite.rtype")).map (·.2) = some 158 := by kernel_rfl
theorem vY : ((List.range Tryz.prog.types.size).filter fun t => Tryz.prog.rowNamed t [101,114,114,111,114]) = [35] := by kernel_rfl
theorem vX : typeHandle Tryz.prog 35 = .pointer (some ⟨1,35,none⟩) := by kernel_rfl
abbrev yD : List (String × DataW Unit) := [("errors.errorType",Rows.laid_errors_errorType)]
theorem wb {W : World} (h : laidMetH Tryz.prog yD W) : Gl (iO W) := by
 have h' : laidMet Tryz.prog [] W ∧ handlesMet Tryz.prog [("errors.errorType",Rows.laid_errors_errorType)] W := h
 obtain ⟨h1,h2⟩ := h'
 obtain ⟨name,u,ty,e1,e2,e3,e4,e5⟩ := h2 _ (List.mem_singleton.2 rfl)
 have en : name = [101,114,114,111,114] := (Option.some.inj e1).symm
 subst en
 obtain rfl := Option.some.inj (rt_row.symm.trans e2)
 have hm : ty ∈ (List.range Tryz.prog.types.size).filter fun t => Tryz.prog.rowNamed t [101,114,114,111,114] := List.mem_filter.2 ⟨List.mem_range.2 e3,e4⟩
 rw [vY] at hm
 obtain rfl := List.mem_singleton.1 hm
 rw [vX] at e5
 have hc0 := World.var?_cell zg e5 0
 intro g cs hg
 unfold rP at hg
 split at hg
 ·rename_i e
  subst e
  cases hg
  refine rb (v := .iface 158 (.agg #[.pointer (some ⟨1,35,none⟩)])) (by simpa using hc0) rfl (.ifc _ _ _ (.agg _ _ rfl (fun j hj => ?_) fun j hj => ?_))
  ·obtain rfl : j = 0 := by simpa using hj
   rfl
  ·obtain rfl : j = 0 := by simpa using hj
   exact .c _
 ·cases hg
end Go.Proofs.YtmpdocplcgbpkaaGreatDoor

/- cnf.Make in K, of whatever formula. Clauses refuted, a certificate checked: plain. cnf.Make in K, of a formula whose clauses can be made: the row of clauses may grow. -/
import Derived.Test.YtmpdocplcgbpkaaGreatDoorZ21
import Derived.Test.YtmpdocplcgbpkaaGreatDoorZ22
import Derived.Test.YtmpdocplcgbpkaaGreatDoorZ7
import Derived.Test.YtmpdocplcgbpkaaGreatDoorZ12
namespace Go.Proofs.YtmpdocplcgbpkaaGreatDoor
set_option linter.unusedSimpArgs false
set_option linter.unusedVariables false
open Go.RowKit
theorem nM (n : Int) (cs : List (List Int)) : df n cs = 0 ∨ df n cs = 1 ∨ df n cs = 2 ∨ df n cs = 5 := by
 unfold df
 repeat' split
 all_goals simp
def dR (f : Fo) : Nat × Int × List Ln × List (List Int) :=
 if isN f = false then (5,0,[],[])
 else if 8192 < (dD (dv f []) f ((dv f []).length : Int) []).2.1 ∨ df (dD (dv f []) f ((dv f []).length : Int) []).2.1 (((dD (dv f []) f ((dv f []).length : Int) []).2.2 ++ [([(dD (dv f []) f ((dv f []).length : Int) []).1],true)]).map (·.1)) ≠ 0 then (2,0,[],[])
 else (0,(dD (dv f []) f ((dv f []).length : Int) []).2.1,dv f [],((dD (dv f []) f ((dv f []).length : Int) []).2.2 ++ [([(dD (dv f []) f ((dv f []).length : Int) []).1],true)]).map (·.1))
def pK (q : Nat × Int × List Ln × List (List Int)) : AV := .tup [.agg [inA q.2.1,gm q.2.2.1,csA q.2.2.2],cK q.1]
theorem xm (c : List Int × Bool) (k : Nat) : wkD (k + 1) (et c) = di c.1 := by
 obtain ⟨c,b⟩ := c
 have h : (c.map inA).map (wkD k) = c.map inA := by
  rw [List.map_map]
  exact List.map_congr_left fun x _ => by cases k <;> rfl
 cases b
 ·show AV.sl ((c.map inA).map (wkD k)) c.length .none = _
  rw [h]
 ·show AV.sl ((c.map inA).map (wkD k)) c.length .none = _
  rw [h]
theorem kl (cs : Cls) (k : Nat) : (cs.map et).map (wkD (k + 1)) = (cs.map (·.1)).map di := by
 rw [List.map_map,List.map_map]
 exact List.map_congr_left fun c _ => xm c k
theorem qT : ∀ (ls : List Ln) (k : Nat),(ls.flatMap lnA).map (wkD (k + 1)) = ls.flatMap lnA
 | [],k => rfl
 | l :: r,k => by
  rw [List.flatMap_cons,List.map_append,qT r k]
  simp [wkD,iP]
mutual
theorem j5 : ∀ (f : Fo) (d z : Int) (ls : List Ln),0 ≤ fe f d z → (∀ o ∈ ls,dg o = true) → ∀ o ∈ dv f ls,dg o = true
 | .mk k l ks,d,z,ls,h,hl => by
  rw [fe] at h
  split at h
  ·rename_i hc
   rw [dv]
   refine o8 ks (d - 1) (z - 1) _ h fun o ho => ?_
   unfold mB at ho
   split at ho
   ·rename_i h2
    rcases List.mem_append.1 ho with ho | ho
    ·exact hl o ho
    ·rw [List.mem_singleton] at ho
     subst ho
     have hw := hc.1
     unfold okW at hw
     rw [h2.1] at hw
     simp only [show ¬ ((2 : Int) = 0 ∨ (2 : Int) = 1) by decide,if_false,if_true,Bool.and_eq_true] at hw
     have := hw.1
     unfold lO at this
     simp only [Bool.and_eq_true] at this
     exact this.1
   ·exact hl o ho
  ·omega
theorem o8 : ∀ (l : List Fo) (d z : Int) (ls : List Ln),0 ≤ eS l d z → (∀ o ∈ ls,dg o = true) → ∀ o ∈ iV l ls,dg o = true
 | [],d,z,ls,h,hl => by rw [iV];exact hl
 | f :: r,d,z,ls,h,hl => by
  rw [eS] at h
  split at h
  ·obtain ⟨h1,_⟩ := kP r d (fe f d z) h
   rw [iV]
   exact o8 r d _ _ h (j5 f d z ls (by omega) hl)
  ·omega
end
theorem vE {B : Nat} {v : Int} {vals : List Int} {cs : Cls} (h2 : 2 ≤ B) (hv : vals.length + 1 ≤ B) (h : ∀ c ∈ cs,c.1.length ≤ B) : ∀ c ∈ qj v vals cs,c.1.length ≤ B := fun c hc => by
 unfold qj at hc
 rcases List.mem_append.1 hc with hc | hc
 ·rcases List.mem_append.1 hc with hc | hc
  ·exact h c hc
  ·obtain ⟨k,_,rfl⟩ := List.mem_map.1 hc
   simpa using h2
 ·rw [List.mem_singleton] at hc
  subst hc
  simpa using hv
mutual
theorem lz (ls : List Ln) (B : Nat) : ∀ (f : Fo) (N : Int) (cs : Cls),0 ≤ N → tot f + 2 ≤ B → (∀ c ∈ cs,c.1.length ≤ B) → ∀ c ∈ (dD ls f N cs).2.2,c.1.length ≤ B
 | .mk k l ks,N,cs,hN,hB,h => by
  rw [tot] at hB
  rw [dD]
  split
  ·exact h
  ·split
   ·exact wS ls B ks N cs hN (by omega) h
   ·have hl := (lC ls ks N cs [] hN).2.2.1
    have ht := js ks
    rw [List.length_nil] at hl
    exact vE (by omega) (by omega) (rY ls B ks N cs [] hN (by omega) h)
theorem wS (ls : List Ln) (B : Nat) : ∀ (ks : List Fo) (N : Int) (cs : Cls),0 ≤ N → d3 ks + 2 ≤ B → (∀ c ∈ cs,c.1.length ≤ B) → ∀ c ∈ (jv ls ks N cs).2.2,c.1.length ≤ B
 | [],N,cs,_,_,h => by rw [jv];exact h
 | f :: r,N,cs,hN,hB,h => by
  rw [d3] at hB
  rw [jv]
  exact lz ls B f N cs hN (by omega) h
theorem rY (ls : List Ln) (B : Nat) : ∀ (ks : List Fo) (N : Int) (cs : Cls) (out : List Int),0 ≤ N → d3 ks + 2 ≤ B → (∀ c ∈ cs,c.1.length ≤ B) → ∀ c ∈ (eX ls ks N cs out).2.2,c.1.length ≤ B
 | [],N,cs,out,_,_,h => by rw [eX];exact h
 | f :: r,N,cs,out,hN,hB,h => by
  rw [d3] at hB
  rw [eX]
  exact rY ls B r _ _ _ (iy ls f N cs hN).1.1 (by omega) (lz ls B f N cs hN (by omega) h)
end
def ba : Nat → List Nat
 | 0 => [0]
 | 1 => [1,2]
 | 2 => [2]
 | 3 => [1,2]
 | 4 => [1,2,4]
 | 5 => [1,2,4]
 | 6 => [1,2,4]
 | 7 => [2,4,5]
 | 8 => [2,4]
 | 9 => [2]
 | 10 => [2,4]
 | 11 => [2,4,6]
 | 12 => [2,4,6,71,72,73]
 | 13 => [2,4,6,71,72,73]
 | 14 => [2,4,6,8,71,72,73]
 | 15 => [2,4,6,71,72,73]
 | 16 => [2,4,6]
 | 17 => [2,4]
 | _ => []
set_option maxRecDepth 100000 in
set_option maxHeartbeats 16000000 in
theorem wV (f : Fo) (hok : OkF f) : AFn Tryz.prog 18 [.agg (foA f)] [] (pK (dR f)) [] := by
 have hE : dR f = if isN f = false then (5,0,[],[])
  else if 8192 < (dD (dv f []) f ((dv f []).length : Int) []).2.1 ∨ df (dD (dv f []) f ((dv f []).length : Int) []).2.1 (((dD (dv f []) f ((dv f []).length : Int) []).2.2 ++ [([(dD (dv f []) f ((dv f []).length : Int) []).1],true)]).map (·.1)) ≠ 0 then (2,0,[],[])
  else (0,(dD (dv f []) f ((dv f []).length : Int) []).2.1,dv f [],((dD (dv f []) f ((dv f []).length : Int) []).2.2 ++ [([(dD (dv f []) f ((dv f []).length : Int) []).1],true)]).map (·.1)) := rfl
 have his := xU f hok
 cases hN : isN f with
 | false =>
  rw [hE,if_pos hN]
  rw [hN] at his
  refine dQ (r := .tup [.agg [inA 0,.sl [] 0 .full,.sl [] 0 .full],.ifc 50 (.c (.int .i64 5))]) ?_ 4 (by simp [wkD,pK,dF])
  clear hE hN
  obtain ⟨k,⟨c,t⟩,ks⟩ := f
  rw [cZ] at his ⊢
  refine bm [] Tryz.func18 rfl Tryz.ntmps18 (Nat.le_of_ble_eq_true rfl) (Nat.le_of_ble_eq_true rfl) fun w0 G0 B0 Pr hB0 => ?_
  simp only [bD,bj,List.cons_append,List.nil_append]
  repeat' (first | (with_reducible refine hY _ ?_;clear hY Y) | ((with_reducible first | refine aX rfl (aR fun K' hK' => aa ?_) | refine hK' _ (ab fun Y hY => aa ?_) | refine ab fun Y hY => aa ?_ | refine ag tk0 ba (ab fun Y hY => aa ?_) | refine aa ?_ | refine aH ?_);(try clear hK' K');(try dsimp only [aop]);try simp only [go_sem,↓reduceIte,Nat.reduceEqDiff,Nat.reduceLT,Nat.reduceLeDiff,Nat.reduceAdd,Nat.reduceSub,Nat.reduceMul,Nat.reduceBEq,Nat.reduceBNe,Nat.reducePow,Int.reduceToNat,Int.reduceLE,Int.reduceLT,Int.reduceMul,Int.reduceEq,Int.reducePow,Int.reduceAdd,Int.reduceSub,Int.reduceNeg,reduceCtorEq,ba,Tryz.results18]) | (with_reducible first | refine aI ?_ | refine aP ?_ | refine aS ?_ | refine bi fun K hK => ?_ | refine aD ?_ | refine aQ ?_ | refine aL ?_) | (with_reducible refine hK _ ?_;clear hK K) | ((with_reducible refine ai ?_ ?_);(· decide)) | (with_reducible refine aK (his) ?_))
 | true =>
 rw [if_neg (by rw [hN];decide)] at hE
 rw [hN] at his
 obtain ⟨htot,hk4⟩ := nT hN
 have hga := o9 0 [] f hok [] (by simp only [List.length_nil];omega) (fun o ho => absurd ho List.not_mem_nil)
 have hgl := iU f []
 have hgg := lr f [] hok (fun o ho => absurd ho List.not_mem_nil)
 rw [List.length_nil] at hgl
 have hln : ∀ o ∈ dv f [],dg o = true := j5 f 128 20480 [] (by unfold isN at hN;exact of_decide_eq_true hN) (fun o ho => absurd ho List.not_mem_nil)
 generalize dv f [] = ls at *
 have hli := uF ls (by omega) hgg f hok hk4 (ls.length : Int) [] (by omega) (by omega) (by simp only [List.length_nil];omega)
 obtain ⟨b1,b2,b3⟩ := iy ls f (ls.length : Int) [] (by omega)
 have b4 := b3 3000000 (by omega) (by omega)
 have hcl := lz ls 30000 f (ls.length : Int) [] (by omega) (by omega) (fun c hc => absurd hc List.not_mem_nil)
 rw [List.length_nil] at b2
 generalize dD ls f (ls.length : Int) [] = q at *
 obtain ⟨x,M,cs⟩ := q
 simp only at hE hli b1 b2 b4 hcl
 have hga' : AFn Tryz.prog 35 [.loc 20000 0,.agg (foA f)] [.bc [inA 0,.sl [] 0 (.tok 20001),.sl [] 0 (.tok 20002),.c (.bool false)] 88,.bt 0 24,.bt 0 41] (.tup [])
  [.bc [inA 0,.sl (ls.flatMap lnA) ls.length (.tok 20001),.sl [] 0 (.tok 20002),.c (.bool false)] 88,.bt ls.length 24,.bt 0 41] := hga
 have hli' : AFn Tryz.prog 36 [.loc 20000 0,.agg (foA f)] [.bc [inA (ls.length : Int),.sl (ls.flatMap lnA) ls.length (.tok 20001),.sl [] 0 (.tok 20002),.c (.bool false)] 88,.bt ls.length 24,.bt 0 41] (inA x)
  [.bc [inA M,.sl (ls.flatMap lnA) ls.length (.tok 20001),.sl (cs.map et) cs.length (.tok 20002),.c (.bool false)] 88,.bt ls.length 24,.bt cs.length 41] := hli
 have hlc : (cs.map et).length = cs.length := List.length_map ..
 have hpc : AFn Tryz.prog 37 [inA M,.sl (cs.map et ++ [.sl [inA x] 1 .full]) (cs.length + 1) .none] [] (cK (df M ((cs ++ [([x],true)]).map (·.1)))) [] := by
  have hp := ki M ((cs ++ [([x],true)]).map (·.1)) (by unfold Lg;simp only [List.length_map,List.length_append,List.length_cons,List.length_nil];omega) (fun c hc => by
   obtain ⟨d,hd,rfl⟩ := List.mem_map.1 hc
   unfold Lg
   rcases List.mem_append.1 hd with hd | hd
   ·have := hcl d hd;omega
   ·rw [List.mem_singleton] at hd;subst hd;simp)
  have hr := kl cs 0
  refine gN 2 hp ?_
  generalize cs.map et = CSW at *
  simp [wkD,hr]
 have hwk : ∀ e : AV,wkD 4 (.tup [.agg [inA M,.sl (ls.flatMap lnA) ls.length .none,.sl (cs.map et ++ [.sl [inA x] 1 .full]) (cs.length + 1) .none],.c .nilIface]) = pK (0,M,ls,(cs ++ [([x],true)]).map (·.1)) := fun e => by
  have hr := kl cs 0
  generalize cs.map et = CSW at *
  simp [wkD,pK,qT,dh,hr]
 clear hga hli hgg b3 hcl
 have hPc := nM M ((cs ++ [([x],true)]).map (·.1))
 generalize df M ((cs ++ [([x],true)]).map (·.1)) = P at *
 have hw := hwk (.c .nilIface)
 clear hwk
 generalize hRM : pK (0,M,ls,(cs ++ [([x],true)]).map (·.1)) = RM at *
 by_cases hbad : 8192 < M ∨ P ≠ 0
 ·rw [hE,if_pos hbad]
  refine dQ (r := .tup [.agg [inA 0,.sl [] 0 .full,.sl [] 0 .full],.ifc 50 (.c (.int .i64 2))]) ?_ 4 (by simp [wkD,pK,gG])
  clear hE hRM hw hN
  generalize cs.map et = CSW at *
  by_cases hM : 8192 < M
  ·have hM' : ((8192 : Int) < M) = True := eq_true hM
   obtain ⟨k,⟨c,t⟩,ks⟩ := f
   rw [cZ] at his hga' hli' ⊢
   refine bm [] Tryz.func18 rfl Tryz.ntmps18 (Nat.le_of_ble_eq_true rfl) (Nat.le_of_ble_eq_true rfl) fun w0 G0 B0 Pr hB0 => ?_
   simp only [bD,bj,List.cons_append,List.nil_append]
   repeat' (first | (with_reducible refine hY _ ?_;clear hY Y) | ((with_reducible first | refine aX rfl (aR fun K' hK' => aa ?_) | refine hK' _ (ab fun Y hY => aa ?_) | refine ab fun Y hY => aa ?_ | refine aa ?_);(try clear hK' K');(try dsimp only [aop]);try simp only [go_sem,↓reduceIte,Nat.reduceEqDiff,Nat.reduceLT,Nat.reduceLeDiff,Nat.reduceAdd,Nat.reduceSub,Nat.reduceMul,Nat.reduceBEq,Nat.reduceBNe,Nat.reducePow,Int.reduceToNat,Int.reduceLE,Int.reduceLT,Int.reduceMul,Int.reduceEq,Int.reducePow,Int.reduceAdd,Int.reduceSub,Int.reduceNeg,reduceCtorEq,ba,Tryz.results18]) | (with_reducible first | refine aI ?_ | refine aP ?_ | refine bi fun K hK => ?_ | refine aC ?_ | refine av ?_) | ((with_reducible refine cS 4 ?_ ?_);(· rfl)) | ((with_reducible refine ca 4 tk0 ba ?_ (ab fun Y hY => aa ?_));(· rfl);(try dsimp only [aop]);try simp only [go_sem,↓reduceIte,Nat.reduceEqDiff,Nat.reduceLT,Nat.reduceLeDiff,Nat.reduceAdd,Nat.reduceSub,Nat.reduceMul,Nat.reduceBEq,Nat.reduceBNe,Nat.reducePow,Int.reduceToNat,Int.reduceLE,Int.reduceLT,Int.reduceMul,Int.reduceEq,Int.reducePow,Int.reduceAdd,Int.reduceSub,Int.reduceNeg,reduceCtorEq,ba,Tryz.results18]) | (with_reducible refine hK _ ?_;clear hK K) | ((with_reducible refine ai ?_ ?_);(· decide)) | (with_reducible refine aK (his) ?_))
   refine fY (dk (b := 19998) (k0 := 10015) (i := 1) 24 (by decide) (by decide) (by decide) rfl rfl rfl) ?_
   refine cf (L := [1,2,4]) (by simp only [go_sem,↓reduceIte,Nat.reduceEqDiff,Nat.reduceLT,Nat.reduceLeDiff,Nat.reduceAdd,Nat.reduceSub,Nat.reduceMul,Nat.reduceBEq,Nat.reduceBNe,Nat.reducePow,Int.reduceToNat,Int.reduceLE,Int.reduceLT,Int.reduceMul,Int.reduceEq,Int.reducePow,Int.reduceAdd,Int.reduceSub,Int.reduceNeg,reduceCtorEq,List.set_cons_succ,List.set_cons_zero];exact rfl) ?_
   refine fY (dk (b := 19999) (k0 := 10015) (i := 2) 41 (by decide) (by decide) (by decide) rfl rfl rfl) ?_
   refine cf (L := [1,2,4]) (by simp only [go_sem,↓reduceIte,Nat.reduceEqDiff,Nat.reduceLT,Nat.reduceLeDiff,Nat.reduceAdd,Nat.reduceSub,Nat.reduceMul,Nat.reduceBEq,Nat.reduceBNe,Nat.reducePow,Int.reduceToNat,Int.reduceLE,Int.reduceLT,Int.reduceMul,Int.reduceEq,Int.reducePow,Int.reduceAdd,Int.reduceSub,Int.reduceNeg,reduceCtorEq,List.set_cons_succ,List.set_cons_zero];exact rfl) ?_
   repeat' (first | (with_reducible refine hY _ ?_;clear hY Y) | ((with_reducible first | refine aX rfl (aR fun K' hK' => aa ?_) | refine hK' _ (ab fun Y hY => aa ?_) | refine ab fun Y hY => aa ?_ | refine ag tk0 ba (ab fun Y hY => aa ?_) | refine aa ?_ | refine aH ?_ | refine aN rfl (ap fun K' hK' => aa ?_) | refine hK' _ _ (ab fun Y hY => aa ?_) | refine aM rfl (ab fun Y hY => aa ?_));(try clear hK' K');(try dsimp only [aop]);try simp only [go_sem,↓reduceIte,Nat.reduceEqDiff,Nat.reduceLT,Nat.reduceLeDiff,Nat.reduceAdd,Nat.reduceSub,Nat.reduceMul,Nat.reduceBEq,Nat.reduceBNe,Nat.reducePow,Int.reduceToNat,Int.reduceLE,Int.reduceLT,Int.reduceMul,Int.reduceEq,Int.reducePow,Int.reduceAdd,Int.reduceSub,Int.reduceNeg,reduceCtorEq,ba,Tryz.results18,hM',hlc]) | (with_reducible first | refine aI ?_ | refine am rfl ?_ | refine bg ?_ ?_ | refine aP ?_ | refine aS ?_ | refine bi fun K hK => ?_ | refine aD ?_ | refine aQ ?_ | refine aL ?_ | refine aj ?_ | refine bh fun K hK => ?_) | (with_reducible refine hK _ ?_;clear hK K) | (with_reducible refine hK _ _ ?_ ?_;(· kernel_rfl);clear hK K) | ((with_reducible first | refine aF ?_ ?_ | refine ai ?_ ?_);(· decide)) | (with_reducible refine aq tk0 ba ?_ ?_;(· kernel_rfl)) | (with_reducible refine aV ?_ ?_;(· (try and_intros) <;> first | omega | assumption | (simp only [List.length_append,List.length_map,List.length_cons,List.length_nil] <;> omega))) | (with_reducible refine aK (hga') ?_) | (with_reducible refine aK (hli') ?_))
  ·have hM' : ((8192 : Int) < M) = False := eq_false hM
   have hP0 : P ≠ 0 := hbad.resolve_left hM
   rcases hPc with e | e | e | e
   ·exact absurd e hP0
   ·subst e
    rw [qx] at hpc
    obtain ⟨k,⟨c,t⟩,ks⟩ := f
    rw [cZ] at his hga' hli' ⊢
    refine bm [] Tryz.func18 rfl Tryz.ntmps18 (Nat.le_of_ble_eq_true rfl) (Nat.le_of_ble_eq_true rfl) fun w0 G0 B0 Pr hB0 => ?_
    simp only [bD,bj,List.cons_append,List.nil_append]
    repeat' (first | (with_reducible refine hY _ ?_;clear hY Y) | ((with_reducible first | refine aX rfl (aR fun K' hK' => aa ?_) | refine hK' _ (ab fun Y hY => aa ?_) | refine ab fun Y hY => aa ?_ | refine aa ?_);(try clear hK' K');(try dsimp only [aop]);try simp only [go_sem,↓reduceIte,Nat.reduceEqDiff,Nat.reduceLT,Nat.reduceLeDiff,Nat.reduceAdd,Nat.reduceSub,Nat.reduceMul,Nat.reduceBEq,Nat.reduceBNe,Nat.reducePow,Int.reduceToNat,Int.reduceLE,Int.reduceLT,Int.reduceMul,Int.reduceEq,Int.reducePow,Int.reduceAdd,Int.reduceSub,Int.reduceNeg,reduceCtorEq,ba,Tryz.results18]) | (with_reducible first | refine aI ?_ | refine aP ?_ | refine bi fun K hK => ?_ | refine aC ?_ | refine av ?_) | ((with_reducible refine cS 4 ?_ ?_);(· rfl)) | ((with_reducible refine ca 4 tk0 ba ?_ (ab fun Y hY => aa ?_));(· rfl);(try dsimp only [aop]);try simp only [go_sem,↓reduceIte,Nat.reduceEqDiff,Nat.reduceLT,Nat.reduceLeDiff,Nat.reduceAdd,Nat.reduceSub,Nat.reduceMul,Nat.reduceBEq,Nat.reduceBNe,Nat.reducePow,Int.reduceToNat,Int.reduceLE,Int.reduceLT,Int.reduceMul,Int.reduceEq,Int.reducePow,Int.reduceAdd,Int.reduceSub,Int.reduceNeg,reduceCtorEq,ba,Tryz.results18]) | (with_reducible refine hK _ ?_;clear hK K) | ((with_reducible refine ai ?_ ?_);(· decide)) | (with_reducible refine aK (his) ?_))
    refine fY (dk (b := 19998) (k0 := 10015) (i := 1) 24 (by decide) (by decide) (by decide) rfl rfl rfl) ?_
    refine cf (L := [1,2,4]) (by simp only [go_sem,↓reduceIte,Nat.reduceEqDiff,Nat.reduceLT,Nat.reduceLeDiff,Nat.reduceAdd,Nat.reduceSub,Nat.reduceMul,Nat.reduceBEq,Nat.reduceBNe,Nat.reducePow,Int.reduceToNat,Int.reduceLE,Int.reduceLT,Int.reduceMul,Int.reduceEq,Int.reducePow,Int.reduceAdd,Int.reduceSub,Int.reduceNeg,reduceCtorEq,List.set_cons_succ,List.set_cons_zero];exact rfl) ?_
    refine fY (dk (b := 19999) (k0 := 10015) (i := 2) 41 (by decide) (by decide) (by decide) rfl rfl rfl) ?_
    refine cf (L := [1,2,4]) (by simp only [go_sem,↓reduceIte,Nat.reduceEqDiff,Nat.reduceLT,Nat.reduceLeDiff,Nat.reduceAdd,Nat.reduceSub,Nat.reduceMul,Nat.reduceBEq,Nat.reduceBNe,Nat.reducePow,Int.reduceToNat,Int.reduceLE,Int.reduceLT,Int.reduceMul,Int.reduceEq,Int.reducePow,Int.reduceAdd,Int.reduceSub,Int.reduceNeg,reduceCtorEq,List.set_cons_succ,List.set_cons_zero];exact rfl) ?_
    repeat' (first | (with_reducible refine hY _ ?_;clear hY Y) | ((with_reducible first | refine aX rfl (aR fun K' hK' => aa ?_) | refine hK' _ (ab fun Y hY => aa ?_) | refine ab fun Y hY => aa ?_ | refine ag tk0 ba (ab fun Y hY => aa ?_) | refine aa ?_ | refine aH ?_ | refine aN rfl (ap fun K' hK' => aa ?_) | refine hK' _ _ (ab fun Y hY => aa ?_) | refine aM rfl (ab fun Y hY => aa ?_) | refine ap fun K' hK' => aa ?_);(try clear hK' K');(try dsimp only [aop]);try simp only [go_sem,↓reduceIte,Nat.reduceEqDiff,Nat.reduceLT,Nat.reduceLeDiff,Nat.reduceAdd,Nat.reduceSub,Nat.reduceMul,Nat.reduceBEq,Nat.reduceBNe,Nat.reducePow,Int.reduceToNat,Int.reduceLE,Int.reduceLT,Int.reduceMul,Int.reduceEq,Int.reducePow,Int.reduceAdd,Int.reduceSub,Int.reduceNeg,reduceCtorEq,ba,Tryz.results18,hM',hlc]) | (with_reducible first | refine aI ?_ | refine ao ?_ | refine aP ?_ | refine aS ?_ | refine bi fun K hK => ?_ | refine aD ?_ | refine aQ ?_ | refine aL ?_ | refine aj ?_ | refine bh fun K hK => ?_) | (with_reducible refine hK _ ?_;clear hK K) | (with_reducible refine hK _ _ ?_ ?_;(· kernel_rfl);clear hK K) | ((with_reducible first | refine aF ?_ ?_ | refine ai ?_ ?_);(· decide)) | (with_reducible refine aq tk0 ba ?_ ?_;(· kernel_rfl)) | (with_reducible refine aV ?_ ?_;(· (try and_intros) <;> first | omega | assumption | (simp only [List.length_append,List.length_map,List.length_cons,List.length_nil] <;> omega))) | (with_reducible refine aK (hga') ?_) | (with_reducible refine aK (hli') ?_) | (with_reducible refine aK (dd hpc ?_) ?_;(· simp [c6])))
   ·subst e
    rw [gG] at hpc
    obtain ⟨k,⟨c,t⟩,ks⟩ := f
    rw [cZ] at his hga' hli' ⊢
    refine bm [] Tryz.func18 rfl Tryz.ntmps18 (Nat.le_of_ble_eq_true rfl) (Nat.le_of_ble_eq_true rfl) fun w0 G0 B0 Pr hB0 => ?_
    simp only [bD,bj,List.cons_append,List.nil_append]
    repeat' (first | (with_reducible refine hY _ ?_;clear hY Y) | ((with_reducible first | refine aX rfl (aR fun K' hK' => aa ?_) | refine hK' _ (ab fun Y hY => aa ?_) | refine ab fun Y hY => aa ?_ | refine aa ?_);(try clear hK' K');(try dsimp only [aop]);try simp only [go_sem,↓reduceIte,Nat.reduceEqDiff,Nat.reduceLT,Nat.reduceLeDiff,Nat.reduceAdd,Nat.reduceSub,Nat.reduceMul,Nat.reduceBEq,Nat.reduceBNe,Nat.reducePow,Int.reduceToNat,Int.reduceLE,Int.reduceLT,Int.reduceMul,Int.reduceEq,Int.reducePow,Int.reduceAdd,Int.reduceSub,Int.reduceNeg,reduceCtorEq,ba,Tryz.results18]) | (with_reducible first | refine aI ?_ | refine aP ?_ | refine bi fun K hK => ?_ | refine aC ?_ | refine av ?_) | ((with_reducible refine cS 4 ?_ ?_);(· rfl)) | ((with_reducible refine ca 4 tk0 ba ?_ (ab fun Y hY => aa ?_));(· rfl);(try dsimp only [aop]);try simp only [go_sem,↓reduceIte,Nat.reduceEqDiff,Nat.reduceLT,Nat.reduceLeDiff,Nat.reduceAdd,Nat.reduceSub,Nat.reduceMul,Nat.reduceBEq,Nat.reduceBNe,Nat.reducePow,Int.reduceToNat,Int.reduceLE,Int.reduceLT,Int.reduceMul,Int.reduceEq,Int.reducePow,Int.reduceAdd,Int.reduceSub,Int.reduceNeg,reduceCtorEq,ba,Tryz.results18]) | (with_reducible refine hK _ ?_;clear hK K) | ((with_reducible refine ai ?_ ?_);(· decide)) | (with_reducible refine aK (his) ?_))
    refine fY (dk (b := 19998) (k0 := 10015) (i := 1) 24 (by decide) (by decide) (by decide) rfl rfl rfl) ?_
    refine cf (L := [1,2,4]) (by simp only [go_sem,↓reduceIte,Nat.reduceEqDiff,Nat.reduceLT,Nat.reduceLeDiff,Nat.reduceAdd,Nat.reduceSub,Nat.reduceMul,Nat.reduceBEq,Nat.reduceBNe,Nat.reducePow,Int.reduceToNat,Int.reduceLE,Int.reduceLT,Int.reduceMul,Int.reduceEq,Int.reducePow,Int.reduceAdd,Int.reduceSub,Int.reduceNeg,reduceCtorEq,List.set_cons_succ,List.set_cons_zero];exact rfl) ?_
    refine fY (dk (b := 19999) (k0 := 10015) (i := 2) 41 (by decide) (by decide) (by decide) rfl rfl rfl) ?_
    refine cf (L := [1,2,4]) (by simp only [go_sem,↓reduceIte,Nat.reduceEqDiff,Nat.reduceLT,Nat.reduceLeDiff,Nat.reduceAdd,Nat.reduceSub,Nat.reduceMul,Nat.reduceBEq,Nat.reduceBNe,Nat.reducePow,Int.reduceToNat,Int.reduceLE,Int.reduceLT,Int.reduceMul,Int.reduceEq,Int.reducePow,Int.reduceAdd,Int.reduceSub,Int.reduceNeg,reduceCtorEq,List.set_cons_succ,List.set_cons_zero];exact rfl) ?_
    repeat' (first | (with_reducible refine hY _ ?_;clear hY Y) | ((with_reducible first | refine aX rfl (aR fun K' hK' => aa ?_) | refine hK' _ (ab fun Y hY => aa ?_) | refine ab fun Y hY => aa ?_ | refine ag tk0 ba (ab fun Y hY => aa ?_) | refine aa ?_ | refine aH ?_ | refine aN rfl (ap fun K' hK' => aa ?_) | refine hK' _ _ (ab fun Y hY => aa ?_) | refine aM rfl (ab fun Y hY => aa ?_) | refine ap fun K' hK' => aa ?_);(try clear hK' K');(try dsimp only [aop]);try simp only [go_sem,↓reduceIte,Nat.reduceEqDiff,Nat.reduceLT,Nat.reduceLeDiff,Nat.reduceAdd,Nat.reduceSub,Nat.reduceMul,Nat.reduceBEq,Nat.reduceBNe,Nat.reducePow,Int.reduceToNat,Int.reduceLE,Int.reduceLT,Int.reduceMul,Int.reduceEq,Int.reducePow,Int.reduceAdd,Int.reduceSub,Int.reduceNeg,reduceCtorEq,ba,Tryz.results18,hM',hlc]) | (with_reducible first | refine aI ?_ | refine ao ?_ | refine aP ?_ | refine aS ?_ | refine bi fun K hK => ?_ | refine aD ?_ | refine aQ ?_ | refine aL ?_ | refine aj ?_ | refine bh fun K hK => ?_) | (with_reducible refine hK _ ?_;clear hK K) | (with_reducible refine hK _ _ ?_ ?_;(· kernel_rfl);clear hK K) | ((with_reducible first | refine aF ?_ ?_ | refine ai ?_ ?_);(· decide)) | (with_reducible refine aq tk0 ba ?_ ?_;(· kernel_rfl)) | (with_reducible refine aV ?_ ?_;(· (try and_intros) <;> first | omega | assumption | (simp only [List.length_append,List.length_map,List.length_cons,List.length_nil] <;> omega))) | (with_reducible refine aK (hga') ?_) | (with_reducible refine aK (hli') ?_) | (with_reducible refine aK (dd hpc ?_) ?_;(· simp [c6])))
   ·subst e
    rw [dF] at hpc
    obtain ⟨k,⟨c,t⟩,ks⟩ := f
    rw [cZ] at his hga' hli' ⊢
    refine bm [] Tryz.func18 rfl Tryz.ntmps18 (Nat.le_of_ble_eq_true rfl) (Nat.le_of_ble_eq_true rfl) fun w0 G0 B0 Pr hB0 => ?_
    simp only [bD,bj,List.cons_append,List.nil_append]
    repeat' (first | (with_reducible refine hY _ ?_;clear hY Y) | ((with_reducible first | refine aX rfl (aR fun K' hK' => aa ?_) | refine hK' _ (ab fun Y hY => aa ?_) | refine ab fun Y hY => aa ?_ | refine aa ?_);(try clear hK' K');(try dsimp only [aop]);try simp only [go_sem,↓reduceIte,Nat.reduceEqDiff,Nat.reduceLT,Nat.reduceLeDiff,Nat.reduceAdd,Nat.reduceSub,Nat.reduceMul,Nat.reduceBEq,Nat.reduceBNe,Nat.reducePow,Int.reduceToNat,Int.reduceLE,Int.reduceLT,Int.reduceMul,Int.reduceEq,Int.reducePow,Int.reduceAdd,Int.reduceSub,Int.reduceNeg,reduceCtorEq,ba,Tryz.results18]) | (with_reducible first | refine aI ?_ | refine aP ?_ | refine bi fun K hK => ?_ | refine aC ?_ | refine av ?_) | ((with_reducible refine cS 4 ?_ ?_);(· rfl)) | ((with_reducible refine ca 4 tk0 ba ?_ (ab fun Y hY => aa ?_));(· rfl);(try dsimp only [aop]);try simp only [go_sem,↓reduceIte,Nat.reduceEqDiff,Nat.reduceLT,Nat.reduceLeDiff,Nat.reduceAdd,Nat.reduceSub,Nat.reduceMul,Nat.reduceBEq,Nat.reduceBNe,Nat.reducePow,Int.reduceToNat,Int.reduceLE,Int.reduceLT,Int.reduceMul,Int.reduceEq,Int.reducePow,Int.reduceAdd,Int.reduceSub,Int.reduceNeg,reduceCtorEq,ba,Tryz.results18]) | (with_reducible refine hK _ ?_;clear hK K) | ((with_reducible refine ai ?_ ?_);(· decide)) | (with_reducible refine aK (his) ?_))
    refine fY (dk (b := 19998) (k0 := 10015) (i := 1) 24 (by decide) (by decide) (by decide) rfl rfl rfl) ?_
    refine cf (L := [1,2,4]) (by simp only [go_sem,↓reduceIte,Nat.reduceEqDiff,Nat.reduceLT,Nat.reduceLeDiff,Nat.reduceAdd,Nat.reduceSub,Nat.reduceMul,Nat.reduceBEq,Nat.reduceBNe,Nat.reducePow,Int.reduceToNat,Int.reduceLE,Int.reduceLT,Int.reduceMul,Int.reduceEq,Int.reducePow,Int.reduceAdd,Int.reduceSub,Int.reduceNeg,reduceCtorEq,List.set_cons_succ,List.set_cons_zero];exact rfl) ?_
    refine fY (dk (b := 19999) (k0 := 10015) (i := 2) 41 (by decide) (by decide) (by decide) rfl rfl rfl) ?_
    refine cf (L := [1,2,4]) (by simp only [go_sem,↓reduceIte,Nat.reduceEqDiff,Nat.reduceLT,Nat.reduceLeDiff,Nat.reduceAdd,Nat.reduceSub,Nat.reduceMul,Nat.reduceBEq,Nat.reduceBNe,Nat.reducePow,Int.reduceToNat,Int.reduceLE,Int.reduceLT,Int.reduceMul,Int.reduceEq,Int.reducePow,Int.reduceAdd,Int.reduceSub,Int.reduceNeg,reduceCtorEq,List.set_cons_succ,List.set_cons_zero];exact rfl) ?_
    repeat' (first | (with_reducible refine hY _ ?_;clear hY Y) | ((with_reducible first | refine aX rfl (aR fun K' hK' => aa ?_) | refine hK' _ (ab fun Y hY => aa ?_) | refine ab fun Y hY => aa ?_ | refine ag tk0 ba (ab fun Y hY => aa ?_) | refine aa ?_ | refine aH ?_ | refine aN rfl (ap fun K' hK' => aa ?_) | refine hK' _ _ (ab fun Y hY => aa ?_) | refine aM rfl (ab fun Y hY => aa ?_) | refine ap fun K' hK' => aa ?_);(try clear hK' K');(try dsimp only [aop]);try simp only [go_sem,↓reduceIte,Nat.reduceEqDiff,Nat.reduceLT,Nat.reduceLeDiff,Nat.reduceAdd,Nat.reduceSub,Nat.reduceMul,Nat.reduceBEq,Nat.reduceBNe,Nat.reducePow,Int.reduceToNat,Int.reduceLE,Int.reduceLT,Int.reduceMul,Int.reduceEq,Int.reducePow,Int.reduceAdd,Int.reduceSub,Int.reduceNeg,reduceCtorEq,ba,Tryz.results18,hM',hlc]) | (with_reducible first | refine aI ?_ | refine ao ?_ | refine aP ?_ | refine aS ?_ | refine bi fun K hK => ?_ | refine aD ?_ | refine aQ ?_ | refine aL ?_ | refine aj ?_ | refine bh fun K hK => ?_) | (with_reducible refine hK _ ?_;clear hK K) | (with_reducible refine hK _ _ ?_ ?_;(· kernel_rfl);clear hK K) | ((with_reducible first | refine aF ?_ ?_ | refine ai ?_ ?_);(· decide)) | (with_reducible refine aq tk0 ba ?_ ?_;(· kernel_rfl)) | (with_reducible refine aV ?_ ?_;(· (try and_intros) <;> first | omega | assumption | (simp only [List.length_append,List.length_map,List.length_cons,List.length_nil] <;> omega))) | (with_reducible refine aK (hga') ?_) | (with_reducible refine aK (hli') ?_) | (with_reducible refine aK (dd hpc ?_) ?_;(· simp [c6])))
 ·have hP : P = 0 := by omega
  have hM : ¬ 8192 < M := fun h => hbad (.inl h)
  rw [hE,if_neg hbad,hRM]
  subst hP
  rw [dh] at hpc
  have hM' : ((8192 : Int) < M) = False := eq_false hM
  refine dQ ?_ 4 hw
  clear hE hRM hw hN hbad
  generalize cs.map et = CSW at *
  obtain ⟨k,⟨c,t⟩,ks⟩ := f
  rw [cZ] at his hga' hli' ⊢
  refine bm [] Tryz.func18 rfl Tryz.ntmps18 (Nat.le_of_ble_eq_true rfl) (Nat.le_of_ble_eq_true rfl) fun w0 G0 B0 Pr hB0 => ?_
  simp only [bD,bj,List.cons_append,List.nil_append]
  repeat' (first | (with_reducible refine hY _ ?_;clear hY Y) | ((with_reducible first | refine aX rfl (aR fun K' hK' => aa ?_) | refine hK' _ (ab fun Y hY => aa ?_) | refine ab fun Y hY => aa ?_ | refine aa ?_);(try clear hK' K');(try dsimp only [aop]);try simp only [go_sem,↓reduceIte,Nat.reduceEqDiff,Nat.reduceLT,Nat.reduceLeDiff,Nat.reduceAdd,Nat.reduceSub,Nat.reduceMul,Nat.reduceBEq,Nat.reduceBNe,Nat.reducePow,Int.reduceToNat,Int.reduceLE,Int.reduceLT,Int.reduceMul,Int.reduceEq,Int.reducePow,Int.reduceAdd,Int.reduceSub,Int.reduceNeg,reduceCtorEq,ba,Tryz.results18]) | (with_reducible first | refine aI ?_ | refine aP ?_ | refine bi fun K hK => ?_ | refine aC ?_ | refine av ?_) | ((with_reducible refine cS 4 ?_ ?_);(· rfl)) | ((with_reducible refine ca 4 tk0 ba ?_ (ab fun Y hY => aa ?_));(· rfl);(try dsimp only [aop]);try simp only [go_sem,↓reduceIte,Nat.reduceEqDiff,Nat.reduceLT,Nat.reduceLeDiff,Nat.reduceAdd,Nat.reduceSub,Nat.reduceMul,Nat.reduceBEq,Nat.reduceBNe,Nat.reducePow,Int.reduceToNat,Int.reduceLE,Int.reduceLT,Int.reduceMul,Int.reduceEq,Int.reducePow,Int.reduceAdd,Int.reduceSub,Int.reduceNeg,reduceCtorEq,ba,Tryz.results18]) | (with_reducible refine hK _ ?_;clear hK K) | ((with_reducible refine ai ?_ ?_);(· decide)) | (with_reducible refine aK (his) ?_))
  refine fY (dk (b := 19998) (k0 := 10015) (i := 1) 24 (by decide) (by decide) (by decide) rfl rfl rfl) ?_
  refine cf (L := [1,2,4]) (by simp only [go_sem,↓reduceIte,Nat.reduceEqDiff,Nat.reduceLT,Nat.reduceLeDiff,Nat.reduceAdd,Nat.reduceSub,Nat.reduceMul,Nat.reduceBEq,Nat.reduceBNe,Nat.reducePow,Int.reduceToNat,Int.reduceLE,Int.reduceLT,Int.reduceMul,Int.reduceEq,Int.reducePow,Int.reduceAdd,Int.reduceSub,Int.reduceNeg,reduceCtorEq,List.set_cons_succ,List.set_cons_zero];exact rfl) ?_
  refine fY (dk (b := 19999) (k0 := 10015) (i := 2) 41 (by decide) (by decide) (by decide) rfl rfl rfl) ?_
  refine cf (L := [1,2,4]) (by simp only [go_sem,↓reduceIte,Nat.reduceEqDiff,Nat.reduceLT,Nat.reduceLeDiff,Nat.reduceAdd,Nat.reduceSub,Nat.reduceMul,Nat.reduceBEq,Nat.reduceBNe,Nat.reducePow,Int.reduceToNat,Int.reduceLE,Int.reduceLT,Int.reduceMul,Int.reduceEq,Int.reducePow,Int.reduceAdd,Int.reduceSub,Int.reduceNeg,reduceCtorEq,List.set_cons_succ,List.set_cons_zero];exact rfl) ?_
  repeat' (first | (with_reducible refine hY _ ?_;clear hY Y) | ((with_reducible first | refine aX rfl (aR fun K' hK' => aa ?_) | refine hK' _ (ab fun Y hY => aa ?_) | refine ab fun Y hY => aa ?_ | refine ag tk0 ba (ab fun Y hY => aa ?_) | refine aa ?_ | refine aN rfl (ap fun K' hK' => aa ?_) | refine hK' _ _ (ab fun Y hY => aa ?_) | refine aM rfl (ab fun Y hY => aa ?_) | refine ap fun K' hK' => aa ?_);(try clear hK' K');(try dsimp only [aop]);try simp only [go_sem,↓reduceIte,Nat.reduceEqDiff,Nat.reduceLT,Nat.reduceLeDiff,Nat.reduceAdd,Nat.reduceSub,Nat.reduceMul,Nat.reduceBEq,Nat.reduceBNe,Nat.reducePow,Int.reduceToNat,Int.reduceLE,Int.reduceLT,Int.reduceMul,Int.reduceEq,Int.reducePow,Int.reduceAdd,Int.reduceSub,Int.reduceNeg,reduceCtorEq,ba,Tryz.results18,hM',hlc]) | (with_reducible first | refine aI ?_ | refine ao ?_ | refine aP ?_ | refine aS ?_ | refine bi fun K hK => ?_ | refine aC ?_ | refine ah ?_ | refine av ?_ | refine au ?_ | refine aj ?_ | refine bh fun K hK => ?_) | (with_reducible refine hK _ ?_;clear hK K) | (with_reducible refine hK _ _ ?_ ?_;(· kernel_rfl);clear hK K) | ((with_reducible first | refine aF ?_ ?_ | refine ai ?_ ?_);(· decide)) | (with_reducible refine aq tk0 ba ?_ ?_;(· kernel_rfl)) | (with_reducible refine aV ?_ ?_;(· (try and_intros) <;> first | omega | assumption | (simp only [List.length_append,List.length_map,List.length_cons,List.length_nil] <;> omega))) | (with_reducible refine aK (hga') ?_) | (with_reducible refine aK (hli') ?_) | (with_reducible refine aK (dd hpc ?_) ?_;(· simp [c6])) | (with_reducible refine ce (cu) ?_))
  refine d5 (gv (b := 10085) (t := 6) 24 (by decide) (by decide) rfl rfl) ?_
  refine b7 (α := Nat) (fun j => [(2,.loc 10002 0),(4,.loc 10015 0),(6,.sl ((ls.take j).flatMap lnA) j (.tok 10085)),(71,.sl (ls.flatMap lnA) ls.length (.tok 19998)),(72,inA (ls.length : Int)),(73,inA (j : Int)),(10002,.bc [inA 0,.sl [] 0 .full,.sl [] 0 .full] 57),(10015,.bc [inA M,.sl (ls.flatMap lnA) ls.length (.tok 19998),.sl (CSW ++ [.sl [inA x] 1 .full]) (cs.length + 1) (.tok 19999),.c (.bool false)] 88),(10085,.bt j 24),(19998,.bt ls.length 24),(19999,.bt (cs.length + 1) 41)])
   (fun j => j ≤ ls.length) (fun j => ls.length - j) 0 [2,4,6,71,72,73] ?_ (Nat.zero_le _) ?_
  ·simp only [go_sem,↓reduceIte,Nat.reduceEqDiff,Nat.reduceLT,Nat.reduceLeDiff,Nat.reduceAdd,Nat.reduceSub,Nat.reduceMul,Nat.reduceBEq,Nat.reduceBNe,Nat.reducePow,Int.reduceToNat,Int.reduceLE,Int.reduceLT,Int.reduceMul,Int.reduceEq,Int.reducePow,Int.reduceAdd,Int.reduceSub,Int.reduceNeg,reduceCtorEq] <;> rfl
  intro j hj ih
  by_cases hlt : j < ls.length
  ·have hlt' : ((j : Int) < (ls.length : Int)) = True := eq_true (by omega)
   have hkw := cC (n := j) (by omega)
   have hg0 := i4 hlt
   have hfl := eo ls
   have hcs : ((ls.take j).flatMap lnA).length = j * 2 := by rw [eo,List.length_take];omega
   have h64 := (fi (hln _ (List.getElem_mem hlt))).2.1
   have hck := jX ls[j].t .none (.inl rfl) (by omega)
   have ih' := ih (j + 1) (by omega)  (by omega)
   rw [List.take_succ_eq_append_getElem hlt,l6] at ih'
   clear ih hln hpc hga' hli' his
   generalize ls[j] = l at *
   generalize (ls.take j).flatMap lnA = PC at *
   repeat' (first | (with_reducible refine hY _ ?_;clear hY Y) | ((with_reducible first | refine aX rfl (aR fun K' hK' => aa ?_) | refine hK' _ (ab fun Y hY => aa ?_) | refine ab fun Y hY => aa ?_ | refine ag tk0 ba (ab fun Y hY => aa ?_) | refine aa ?_ | refine aN rfl (ap fun K' hK' => aa ?_) | refine hK' _ _ (ab fun Y hY => aa ?_));(try clear hK' K');(try dsimp only [aop]);try simp only [go_sem,↓reduceIte,Nat.reduceEqDiff,Nat.reduceLT,Nat.reduceLeDiff,Nat.reduceAdd,Nat.reduceSub,Nat.reduceMul,Nat.reduceBEq,Nat.reduceBNe,Nat.reducePow,Int.reduceToNat,Int.reduceLE,Int.reduceLT,Int.reduceMul,Int.reduceEq,Int.reducePow,Int.reduceAdd,Int.reduceSub,Int.reduceNeg,reduceCtorEq,ba,Tryz.results18,hlt',hfl,hg0,hkw,hcs]) | (with_reducible first | refine aI ?_ | refine aP ?_ | refine aS ?_ | refine bi fun K hK => ?_ | refine aD ?_ | refine ay ?_ | refine ah ?_ | refine av ?_ | refine aj ?_ | refine bh fun K hK => ?_) | (with_reducible refine hK _ ?_;clear hK K) | (with_reducible refine hK _ _ ?_ ?_;(· kernel_rfl);clear hK K) | ((with_reducible refine ai ?_ ?_);(· decide)) | (with_reducible refine aq tk0 ba ?_ ?_;(· kernel_rfl)) | (with_reducible refine aV ?_ ?_;(· (try and_intros) <;> first | omega | assumption | (simp only [List.length_append,List.length_map,List.length_cons,List.length_nil] <;> omega))) | (with_reducible refine aK (hck) ?_))
   refine bO [2,4,6,71,72,73] (by simp only [go_sem,↓reduceIte,Nat.reduceEqDiff,Nat.reduceLT,Nat.reduceLeDiff,Nat.reduceAdd,Nat.reduceSub,Nat.reduceMul,Nat.reduceBEq,Nat.reduceBNe,Nat.reducePow,Int.reduceToNat,Int.reduceLE,Int.reduceLT,Int.reduceMul,Int.reduceEq,Int.reducePow,Int.reduceAdd,Int.reduceSub,Int.reduceNeg,reduceCtorEq];exact rfl) ?_
   exact ih'
  ·have hlt' : ((j : Int) < (ls.length : Int)) = False := eq_false (by omega)
   obtain rfl : j = ls.length := by omega
   rw [List.take_of_length_le (by omega)]
   clear ih hln hpc hga' hli' his
   repeat' (first | (with_reducible refine hY _ ?_;clear hY Y) | ((with_reducible first | refine aX rfl (aR fun K' hK' => aa ?_) | refine hK' _ (ab fun Y hY => aa ?_) | refine ab fun Y hY => aa ?_ | refine ag tk0 ba (ab fun Y hY => aa ?_) | refine aa ?_ | refine aH ?_);(try clear hK' K');(try dsimp only [aop]);try simp only [go_sem,↓reduceIte,Nat.reduceEqDiff,Nat.reduceLT,Nat.reduceLeDiff,Nat.reduceAdd,Nat.reduceSub,Nat.reduceMul,Nat.reduceBEq,Nat.reduceBNe,Nat.reducePow,Int.reduceToNat,Int.reduceLE,Int.reduceLT,Int.reduceMul,Int.reduceEq,Int.reducePow,Int.reduceAdd,Int.reduceSub,Int.reduceNeg,reduceCtorEq,ba,Tryz.results18,hlt']) | (with_reducible first | refine aI ?_ | refine aP ?_ | refine aS ?_ | refine bi fun K hK => ?_ | refine aC ?_ | refine aO ?_ | refine ax ?_ | refine aL ?_ | refine ar ?_) | (with_reducible refine hK _ ?_;clear hK K) | ((with_reducible refine ai ?_ ?_);(· decide)))
end Go.Proofs.YtmpdocplcgbpkaaGreatDoor
namespace Go.Proofs.YtmpdocplcgbpkaaGreatDoor
set_option linter.unusedSimpArgs false
set_option linter.unusedVariables false
def kh (c : List Int) : List Int := c.map fun l => -l
def ln (n : Nat) (all : List (List Int)) (base : Nat) : List (List Int) → Nat → Nat × Int
 | [],_ => (0,-1)
 | s :: r,i => if (jh n (all.take (base + i)) (kh s)).1 = true then (9,i) else ln n all base r (i + 1)
def pM (n : Int) (cls steps : List (List Int)) : Nat × Int :=
 if df n cls ≠ 0 then (df n cls,-1) else if df n (cls ++ steps) ≠ 0 then (df n (cls ++ steps),-1)
 else if (ln n.toNat (cls ++ steps) cls.length steps 0).1 ≠ 0 then ln n.toNat (cls ++ steps) cls.length steps 0
 else if (cls ++ steps).any (fun c => decide (c.length = 0)) then (0,-1) else (8,-1)
theorem jW {n : Int} {cs : List (List Int)} (h : df n cs = 0) : (0 ≤ n ∧ n ≤ 8192) ∧ cs.length ≤ 16384 ∧ eZ cs ≤ 131072 ∧ ∀ c ∈ cs,∀ l ∈ c,OkL n.toNat l := by
 unfold df at h
 split at h
 ·cases h
 split at h
 ·cases h
 split at h
 ·cases h
 rename_i h1 h2 h3
 refine ⟨by omega,by omega,by omega,fun c hc l hl => ?_⟩
 have h4 : ix n l = true := by
  cases e : ix n l with
  | true => rfl
  | false => exact absurd (List.any_eq_true.2 ⟨c,hc,List.any_eq_true.2 ⟨l,hl,by rw [e];rfl⟩⟩) h3
 unfold ix at h4
 simp only [Bool.and_eq_true,Bool.not_eq_true',decide_eq_false_iff_not,decide_eq_true_eq] at h4
 exact ⟨h4.1,by omega⟩
theorem rX {n : Nat} {l : Int} (h : OkL n l) : ix n l = true := by
 unfold ix
 obtain ⟨h1,h2⟩ := h
 simp only [Bool.and_eq_true,Bool.not_eq_true',decide_eq_false_iff_not,decide_eq_true_eq]
 exact ⟨h1,by omega,by omega⟩
theorem oW {n : Int} {cs : List (List Int)} (h : df n cs = 0) (k : Nat) : df n (cs.take k) = 0 := by
 obtain ⟨h1,h2,h3,h4⟩ := jW h
 have hs := kp cs k
 unfold df
 rw [if_neg (by omega),if_neg (by rw [List.length_take];omega),if_neg]
 intro e
 obtain ⟨c,hc,e⟩ := List.any_eq_true.1 e
 obtain ⟨l,hl,e⟩ := List.any_eq_true.1 e
 have := rX (h4 c (List.mem_of_mem_take hc) l hl)
 rw [show ((n.toNat : Nat) : Int) = n by omega] at this
 rw [this] at e
 cases e
theorem w2 {n : Nat} {c : List Int} (h : ∀ l ∈ c,OkL n l) : ∀ l ∈ kh c,OkL n l := fun l hl => by
 obtain ⟨x,hx,rfl⟩ := List.mem_map.1 hl
 obtain ⟨h1,h2⟩ := h x hx
 exact ⟨by omega,by omega⟩
theorem th {n : Nat} {all : List (List Int)} {base : Nat} {ss : List (List Int)} {i : Nat} (h : i < ss.length) : ln n all base (ss.drop i) i = if (jh n (all.take (base + i)) (kh ss[i])).1 = true then (9,(i : Int)) else ln n all base (ss.drop (i + 1)) (i + 1) := by
 rw [List.drop_eq_getElem_cons h,ln]
structure Lem where
 lits : List Int
 steps : List Stp
structure Crt where
 lems : List Lem
 refute : List (List Int)
def qO (atoms : List Ln) (l : Lem) : Nat := if (g8 atoms l.lits).1 ≠ 0 then (g8 atoms l.lits).1 else (i9 (g8 atoms l.lits).2 l.steps).1
def iH (atoms : List Ln) : List Lem → Nat → Nat × Int
 | [],_ => (0,-1)
 | l :: r,i => if qO atoms l ≠ 0 then (qO atoms l,i) else iH atoms r (i + 1)
def jy (f : Fo) (c : Crt) : Nat × Int :=
 if (du f).1 ≠ 0 then ((du f).1,-1)
 else if (dR (du f).2).1 ≠ 0 then ((dR (du f).2).1,-1)
 else if 4096 < c.lems.length then (2,-1)
 else if (iH (dR (du f).2).2.2.1 c.lems 0).1 ≠ 0 then iH (dR (du f).2).2.2.1 c.lems 0
 else pM (dR (du f).2).2.1 ((dR (du f).2).2.2.2 ++ c.lems.map (·.lits)) c.refute
end Go.Proofs.YtmpdocplcgbpkaaGreatDoor
namespace Go.Proofs.YtmpdocplcgbpkaaGreatDoor
set_option linter.unusedSimpArgs false
set_option linter.unusedVariables false
open Go.RowKit
def ne (f : Fo) : Cls := (dD (dv f []) f ((dv f []).length : Int) []).2.2 ++ [([(dD (dv f []) f ((dv f []).length : Int) []).1],true)]
theorem oh {f : Fo} (h : (dR f).1 = 0) : isN f = true ∧ (dR f).2.1 = (dD (dv f []) f ((dv f []).length : Int) []).2.1 ∧ (dR f).2.2.1 = dv f [] ∧ (dR f).2.2.2 = (ne f).map (·.1) ∧
  (dR f).2.1 ≤ 8192 ∧ df (dR f).2.1 (dR f).2.2.2 = 0 := by
 unfold dR at h ⊢
 split at h
 ·cases h
 rename_i h1
 split at h
 ·cases h
 rename_i h2
 rw [if_neg h1,if_neg h2]
 refine ⟨by simpa using h1,rfl,rfl,rfl,?_,?_⟩
 ·exact Int.not_lt.1 fun e => h2 (.inl e)
 ·exact Decidable.not_not.1 fun e => h2 (.inr e)
theorem po {f : Fo} (h : (dR f).1 = 0) : (dR f).2.2.1.length ≤ 20480 ∧ ∀ o ∈ (dR f).2.2.1,dg o = true := by
 obtain ⟨h1,_,h3,_⟩ := oh h
 rw [h3]
 have hgl := iU f []
 have := (nT h1).1
 rw [List.length_nil] at hgl
 exact ⟨by omega,j5 f 128 20480 [] (by unfold isN at h1;exact of_decide_eq_true h1) (fun o ho => absurd ho List.not_mem_nil)⟩
set_option maxRecDepth 100000 in
set_option maxHeartbeats 16000000 in
theorem wW (f : Fo) (hok : OkF f) (h0 : (dR f).1 = 0) :
  AFn Tryz.prog 18 [.agg (foA f)] [] (.tup [.agg [inA (dR f).2.1,gm (dR f).2.2.1,.sl ((ne f).map et) (ne f).length (.tok 20000)],.c .nilIface]) [.bt (ne f).length 41] := by
 obtain ⟨hN,e1,e2,e3,hM,hP⟩ := oh h0
 rw [e1] at hM
 rw [e3,e1] at hP
 rw [e1,e2]
 clear e1 e2 e3 h0
 unfold ne at hP ⊢
 have his := xU f hok
 rw [hN] at his
 obtain ⟨htot,hk4⟩ := nT hN
 have hga := o9 0 [] f hok [] (by simp only [List.length_nil];omega) (fun o ho => absurd ho List.not_mem_nil)
 have hgl := iU f []
 have hgg := lr f [] hok (fun o ho => absurd ho List.not_mem_nil)
 rw [List.length_nil] at hgl
 have hln : ∀ o ∈ dv f [],dg o = true := j5 f 128 20480 [] (by unfold isN at hN;exact of_decide_eq_true hN) (fun o ho => absurd ho List.not_mem_nil)
 generalize dv f [] = ls at *
 have hli := uF ls (by omega) hgg f hok hk4 (ls.length : Int) [] (by omega) (by omega) (by simp only [List.length_nil];omega)
 obtain ⟨b1,b2,b3⟩ := iy ls f (ls.length : Int) [] (by omega)
 have b4 := b3 3000000 (by omega) (by omega)
 have hcl := lz ls 30000 f (ls.length : Int) [] (by omega) (by omega) (fun c hc => absurd hc List.not_mem_nil)
 rw [List.length_nil] at b2
 generalize dD ls f (ls.length : Int) [] = q at *
 obtain ⟨x,M,cs⟩ := q
 simp only at hM hP hli b1 b2 b4 hcl ⊢
 have hga' : AFn Tryz.prog 35 [.loc 20000 0,.agg (foA f)] [.bc [inA 0,.sl [] 0 (.tok 20001),.sl [] 0 (.tok 20002),.c (.bool false)] 88,.bt 0 24,.bt 0 41] (.tup [])
  [.bc [inA 0,.sl (ls.flatMap lnA) ls.length (.tok 20001),.sl [] 0 (.tok 20002),.c (.bool false)] 88,.bt ls.length 24,.bt 0 41] := hga
 have hli' : AFn Tryz.prog 36 [.loc 20000 0,.agg (foA f)] [.bc [inA (ls.length : Int),.sl (ls.flatMap lnA) ls.length (.tok 20001),.sl [] 0 (.tok 20002),.c (.bool false)] 88,.bt ls.length 24,.bt 0 41] (inA x)
  [.bc [inA M,.sl (ls.flatMap lnA) ls.length (.tok 20001),.sl (cs.map et) cs.length (.tok 20002),.c (.bool false)] 88,.bt ls.length 24,.bt cs.length 41] := hli
 have hlc : (cs.map et).length = cs.length := List.length_map ..
 have hpc : AFn Tryz.prog 37 [inA M,.sl (cs.map et ++ [.sl [inA x] 1 .full]) (cs.length + 1) .none] [] (cK (df M ((cs ++ [([x],true)]).map (·.1)))) [] := by
  have hp := ki M ((cs ++ [([x],true)]).map (·.1)) (by unfold Lg;simp only [List.length_map,List.length_append,List.length_cons,List.length_nil];omega) (fun c hc => by
   obtain ⟨d,hd,rfl⟩ := List.mem_map.1 hc
   unfold Lg
   rcases List.mem_append.1 hd with hd | hd
   ·have := hcl d hd;omega
   ·rw [List.mem_singleton] at hd;subst hd;simp)
  have hr := kl cs 0
  refine gN 2 hp ?_
  generalize cs.map et = CSW at *
  simp [wkD,hr]
 rw [hP,dh] at hpc
 have hrw : ((cs ++ [([x],true)]).map et) = cs.map et ++ [.sl [inA x] 1 .full] := by rw [List.map_append];rfl
 have hrl : (cs ++ [([x],true)]).length = cs.length + 1 := by rw [List.length_append];rfl
 rw [hrw,hrl]
 clear hga hli hgg b3 hcl hP hrw hrl
 have hM' : ((8192 : Int) < M) = False := eq_false (by omega)
 have hwk : wkD 1 (.tup [.agg [inA M,.sl (ls.flatMap lnA) ls.length .none,.sl (cs.map et ++ [.sl [inA x] 1 .full]) (cs.length + 1) (.tok 20000)],.c .nilIface]) = .tup [.agg [inA M,.sl (ls.flatMap lnA) ls.length .none,.sl (cs.map et ++ [.sl [inA x] 1 .full]) (cs.length + 1) (.tok 20000)],.c .nilIface] := by
  generalize cs.map et = CSW at *
  simp [wkD,qT]
 generalize cs.map et = CSW at *
 obtain ⟨k,⟨c,t⟩,ks⟩ := f
 rw [cZ] at his hga' hli' ⊢
 refine bm [19999] Tryz.func18 rfl Tryz.ntmps18 (Nat.le_of_ble_eq_true rfl) (Nat.le_of_ble_eq_true rfl) fun w0 G0 B0 Pr hB0 => ?_
 simp only [bD,bj,List.cons_append,List.nil_append]
 repeat' (first | (with_reducible refine hY _ ?_;clear hY Y) | ((with_reducible first | refine aX rfl (aR fun K' hK' => aa ?_) | refine hK' _ (ab fun Y hY => aa ?_) | refine ab fun Y hY => aa ?_ | refine aa ?_);(try clear hK' K');(try dsimp only [aop]);try simp only [go_sem,↓reduceIte,Nat.reduceEqDiff,Nat.reduceLT,Nat.reduceLeDiff,Nat.reduceAdd,Nat.reduceSub,Nat.reduceMul,Nat.reduceBEq,Nat.reduceBNe,Nat.reducePow,Int.reduceToNat,Int.reduceLE,Int.reduceLT,Int.reduceMul,Int.reduceEq,Int.reducePow,Int.reduceAdd,Int.reduceSub,Int.reduceNeg,reduceCtorEq,ba,Tryz.results18]) | (with_reducible first | refine aI ?_ | refine aP ?_ | refine bi fun K hK => ?_ | refine aC ?_ | refine av ?_) | ((with_reducible refine cS 4 ?_ ?_);(· rfl)) | ((with_reducible refine ca 4 tk0 ba ?_ (ab fun Y hY => aa ?_));(· rfl);(try dsimp only [aop]);try simp only [go_sem,↓reduceIte,Nat.reduceEqDiff,Nat.reduceLT,Nat.reduceLeDiff,Nat.reduceAdd,Nat.reduceSub,Nat.reduceMul,Nat.reduceBEq,Nat.reduceBNe,Nat.reducePow,Int.reduceToNat,Int.reduceLE,Int.reduceLT,Int.reduceMul,Int.reduceEq,Int.reducePow,Int.reduceAdd,Int.reduceSub,Int.reduceNeg,reduceCtorEq,ba,Tryz.results18]) | (with_reducible refine hK _ ?_;clear hK K) | ((with_reducible refine ai ?_ ?_);(· decide)) | (with_reducible refine aK (his) ?_))
 refine fY (dk (b := 19998) (k0 := 10015) (i := 1) 24 (by decide) (by decide) (by decide) rfl rfl rfl) ?_
 refine cf (L := [1,2,4]) (by simp only [go_sem,↓reduceIte,Nat.reduceEqDiff,Nat.reduceLT,Nat.reduceLeDiff,Nat.reduceAdd,Nat.reduceSub,Nat.reduceMul,Nat.reduceBEq,Nat.reduceBNe,Nat.reducePow,Int.reduceToNat,Int.reduceLE,Int.reduceLT,Int.reduceMul,Int.reduceEq,Int.reducePow,Int.reduceAdd,Int.reduceSub,Int.reduceNeg,reduceCtorEq,List.set_cons_succ,List.set_cons_zero];exact rfl) ?_
 refine fY (dk (b := 19999) (k0 := 10015) (i := 2) 41 (by decide) (by decide) (by decide) rfl rfl rfl) ?_
 refine cf (L := [1,2,4]) (by simp only [go_sem,↓reduceIte,Nat.reduceEqDiff,Nat.reduceLT,Nat.reduceLeDiff,Nat.reduceAdd,Nat.reduceSub,Nat.reduceMul,Nat.reduceBEq,Nat.reduceBNe,Nat.reducePow,Int.reduceToNat,Int.reduceLE,Int.reduceLT,Int.reduceMul,Int.reduceEq,Int.reducePow,Int.reduceAdd,Int.reduceSub,Int.reduceNeg,reduceCtorEq,List.set_cons_succ,List.set_cons_zero];exact rfl) ?_
 repeat' (first | (with_reducible refine hY _ ?_;clear hY Y) | ((with_reducible first | refine aX rfl (aR fun K' hK' => aa ?_) | refine hK' _ (ab fun Y hY => aa ?_) | refine ab fun Y hY => aa ?_ | refine ag tk0 ba (ab fun Y hY => aa ?_) | refine aa ?_ | refine aN rfl (ap fun K' hK' => aa ?_) | refine hK' _ _ (ab fun Y hY => aa ?_) | refine aM rfl (ab fun Y hY => aa ?_) | refine ap fun K' hK' => aa ?_);(try clear hK' K');(try dsimp only [aop]);try simp only [go_sem,↓reduceIte,Nat.reduceEqDiff,Nat.reduceLT,Nat.reduceLeDiff,Nat.reduceAdd,Nat.reduceSub,Nat.reduceMul,Nat.reduceBEq,Nat.reduceBNe,Nat.reducePow,Int.reduceToNat,Int.reduceLE,Int.reduceLT,Int.reduceMul,Int.reduceEq,Int.reducePow,Int.reduceAdd,Int.reduceSub,Int.reduceNeg,reduceCtorEq,ba,Tryz.results18,hM',hlc]) | (with_reducible first | refine aI ?_ | refine ao ?_ | refine aP ?_ | refine aS ?_ | refine bi fun K hK => ?_ | refine aC ?_ | refine ah ?_ | refine av ?_ | refine au ?_ | refine aj ?_ | refine bh fun K hK => ?_) | (with_reducible refine hK _ ?_;clear hK K) | (with_reducible refine hK _ _ ?_ ?_;(· kernel_rfl);clear hK K) | ((with_reducible first | refine aF ?_ ?_ | refine ai ?_ ?_);(· decide)) | (with_reducible refine aq tk0 ba ?_ ?_;(· kernel_rfl)) | (with_reducible refine aV ?_ ?_;(· (try and_intros) <;> first | omega | assumption | (simp only [List.length_append,List.length_map,List.length_cons,List.length_nil] <;> omega))) | (with_reducible refine aK (hga') ?_) | (with_reducible refine aK (hli') ?_) | (with_reducible refine aK (dd hpc ?_) ?_;(· simp [c6])) | (with_reducible refine ce (cu) ?_))
 refine d5 (gv (b := 10085) (t := 6) 24 (by decide) (by decide) rfl rfl) ?_
 refine b7 (α := Nat) (fun j => [(2,.loc 10002 0),(4,.loc 10015 0),(6,.sl ((ls.take j).flatMap lnA) j (.tok 10085)),(71,.sl (ls.flatMap lnA) ls.length (.tok 19998)),(72,inA (ls.length : Int)),(73,inA (j : Int)),(10002,.bc [inA 0,.sl [] 0 .full,.sl [] 0 .full] 57),(10015,.bc [inA M,.sl (ls.flatMap lnA) ls.length (.tok 19998),.sl (CSW ++ [.sl [inA x] 1 .full]) (cs.length + 1) (.tok 19999),.c (.bool false)] 88),(10085,.bt j 24),(19998,.bt ls.length 24),(19999,.bt (cs.length + 1) 41)])
  (fun j => j ≤ ls.length) (fun j => ls.length - j) 0 [2,4,6,71,72,73] ?_ (Nat.zero_le _) ?_
 ·simp only [go_sem,↓reduceIte,Nat.reduceEqDiff,Nat.reduceLT,Nat.reduceLeDiff,Nat.reduceAdd,Nat.reduceSub,Nat.reduceMul,Nat.reduceBEq,Nat.reduceBNe,Nat.reducePow,Int.reduceToNat,Int.reduceLE,Int.reduceLT,Int.reduceMul,Int.reduceEq,Int.reducePow,Int.reduceAdd,Int.reduceSub,Int.reduceNeg,reduceCtorEq] <;> rfl
 intro j hj ih
 by_cases hlt : j < ls.length
 ·have hlt' : ((j : Int) < (ls.length : Int)) = True := eq_true (by omega)
  have hkw := cC (n := j) (by omega)
  have hg0 := i4 hlt
  have hfl := eo ls
  have hcs : ((ls.take j).flatMap lnA).length = j * 2 := by rw [eo,List.length_take];omega
  have h64 := (fi (hln _ (List.getElem_mem hlt))).2.1
  have hck := jX ls[j].t .none (.inl rfl) (by omega)
  have ih' := ih (j + 1) (by omega)  (by omega)
  rw [List.take_succ_eq_append_getElem hlt,l6] at ih'
  clear ih hln hpc hga' hli' his
  generalize ls[j] = l at *
  generalize (ls.take j).flatMap lnA = PC at *
  repeat' (first | (with_reducible refine hY _ ?_;clear hY Y) | ((with_reducible first | refine aX rfl (aR fun K' hK' => aa ?_) | refine hK' _ (ab fun Y hY => aa ?_) | refine ab fun Y hY => aa ?_ | refine ag tk0 ba (ab fun Y hY => aa ?_) | refine aa ?_ | refine aN rfl (ap fun K' hK' => aa ?_) | refine hK' _ _ (ab fun Y hY => aa ?_));(try clear hK' K');(try dsimp only [aop]);try simp only [go_sem,↓reduceIte,Nat.reduceEqDiff,Nat.reduceLT,Nat.reduceLeDiff,Nat.reduceAdd,Nat.reduceSub,Nat.reduceMul,Nat.reduceBEq,Nat.reduceBNe,Nat.reducePow,Int.reduceToNat,Int.reduceLE,Int.reduceLT,Int.reduceMul,Int.reduceEq,Int.reducePow,Int.reduceAdd,Int.reduceSub,Int.reduceNeg,reduceCtorEq,ba,Tryz.results18,hlt',hfl,hg0,hkw,hcs]) | (with_reducible first | refine aI ?_ | refine aP ?_ | refine aS ?_ | refine bi fun K hK => ?_ | refine aD ?_ | refine ay ?_ | refine ah ?_ | refine av ?_ | refine aj ?_ | refine bh fun K hK => ?_) | (with_reducible refine hK _ ?_;clear hK K) | (with_reducible refine hK _ _ ?_ ?_;(· kernel_rfl);clear hK K) | ((with_reducible refine ai ?_ ?_);(· decide)) | (with_reducible refine aq tk0 ba ?_ ?_;(· kernel_rfl)) | (with_reducible refine aV ?_ ?_;(· (try and_intros) <;> first | omega | assumption | (simp only [List.length_append,List.length_map,List.length_cons,List.length_nil] <;> omega))) | (with_reducible refine aK (hck) ?_))
  refine bO [2,4,6,71,72,73] (by simp only [go_sem,↓reduceIte,Nat.reduceEqDiff,Nat.reduceLT,Nat.reduceLeDiff,Nat.reduceAdd,Nat.reduceSub,Nat.reduceMul,Nat.reduceBEq,Nat.reduceBNe,Nat.reducePow,Int.reduceToNat,Int.reduceLE,Int.reduceLT,Int.reduceMul,Int.reduceEq,Int.reducePow,Int.reduceAdd,Int.reduceSub,Int.reduceNeg,reduceCtorEq];exact rfl) ?_
  exact ih'
 ·have hlt' : ((j : Int) < (ls.length : Int)) = False := eq_false (by omega)
  obtain rfl : j = ls.length := by omega
  rw [List.take_of_length_le (by omega)]
  clear ih hln hpc hga' hli' his
  repeat' (first | (with_reducible refine hY _ ?_;clear hY Y) | ((with_reducible first | refine aX rfl (aR fun K' hK' => aa ?_) | refine hK' _ (ab fun Y hY => aa ?_) | refine ab fun Y hY => aa ?_ | refine ag tk0 ba (ab fun Y hY => aa ?_) | refine aa ?_ | refine aH ?_);(try clear hK' K');(try dsimp only [aop]);try simp only [go_sem,↓reduceIte,Nat.reduceEqDiff,Nat.reduceLT,Nat.reduceLeDiff,Nat.reduceAdd,Nat.reduceSub,Nat.reduceMul,Nat.reduceBEq,Nat.reduceBNe,Nat.reducePow,Int.reduceToNat,Int.reduceLE,Int.reduceLT,Int.reduceMul,Int.reduceEq,Int.reducePow,Int.reduceAdd,Int.reduceSub,Int.reduceNeg,reduceCtorEq,ba,Tryz.results18,hlt']) | (with_reducible first | refine aI ?_ | refine aP ?_ | refine aS ?_ | refine bi fun K hK => ?_ | refine aC ?_ | refine aO ?_ | refine ax ?_ | refine aL ?_ | refine ar ?_) | (with_reducible refine hK _ ?_;clear hK K) | ((with_reducible refine ai ?_ ?_);(· decide)))
end Go.Proofs.YtmpdocplcgbpkaaGreatDoor

/- Cut in K: forms, steps as trees; the small functions; sound forms. Formulas as data, in K; what is computed of them. Forms and rows of numbers, read as arguments. Structs of many fields, read as arguments (printed by gen_struct.py). No program is in sight. Formulas, read as arguments. -/
import Derived.Test.YtmpdocplcgbpkaaGreatDoorZ0
import Derived.Test.YtmpdocplcgbpkaaGreatDoorZ7
import Derived.Test.YtmpdocplcgbpkaaGreatDoorZ8
namespace Go.Proofs.YtmpdocplcgbpkaaGreatDoor
set_option linter.unusedSimpArgs false
set_option linter.unusedVariables false
open Go.RowKit
abbrev tmA (m : Tm) : List AV := [inA m.1,inA m.2]
abbrev lnA (l : Ln) : List AV := [inA l.c,.sl (bn l.t) l.t.length .none]
abbrev gm (ls : List Ln) : AV := .sl (ls.flatMap lnA) ls.length .none
abbrev mn (s : Stp) : List AV := [.sl (bn s.parts) s.parts.length .none,inA s.div]
abbrev jD (ss : List Stp) : AV := .sl (ss.flatMap mn) ss.length .none
def Lg {α : Type} (l : List α) : Prop := l.length ≤ 140737488351232
theorem cC {n : Nat} (h : n ≤ 140737488351232) : IntKind.i64.wrap ((n : Int) + 1) = ((n + 1 : Nat) : Int) := by rw [bQ (by omega) (by omega)];rfl
theorem ee : ∀ M : List Tm,bn M = M.flatMap tmA
 | [] => rfl
 | m :: r => by rw [bn,ee r,List.flatMap_cons];rfl
theorem cM (M : List Tm) : (bn M).length = M.length * 2 := by rw [ee];exact kC (f := tmA) (k := 2) (fun _ => rfl) M
theorem ig : ∀ a b : List Tm,bn (a ++ b) = bn a ++ bn b := fun a b => by rw [ee,ee,ee,List.flatMap_append]
theorem eM {M : List Tm} {i : Nat} (h : i < M.length) : ((bn M).drop (i * 2)).take 2 = [inA M[i].1,inA M[i].2] := by rw [ee];exact kX (f := tmA) (fun _ => rfl) h
theorem rF {M : List Tm} {i : Nat} (h : i < M.length) : (bn M).getD (i * 2) .u = inA M[i].1 := by rw [ee];exact nP (f := tmA) (fun _ => rfl) h (by decide)
theorem rG {M : List Tm} {i : Nat} (h : i < M.length) : (bn M).getD (i * 2 + 1) .u = inA M[i].2 := by rw [ee];exact qB (f := tmA) (fun _ => rfl) h 1 (by decide)
theorem eo (ls : List Ln) : (ls.flatMap lnA).length = ls.length * 2 := kC (f := lnA) (k := 2) (fun _ => rfl) ls
theorem i4 {ls : List Ln} {i : Nat} (h : i < ls.length) : ((ls.flatMap lnA).drop (i * 2)).take 2 = [inA ls[i].c,.sl (bn ls[i].t) ls[i].t.length .none] := kX (f := lnA) (fun _ => rfl) h
theorem mo (ls : List Stp) : (ls.flatMap mn).length = ls.length * 2 := kC (f := mn) (k := 2) (fun _ => rfl) ls
theorem xx {ls : List Stp} {i : Nat} (h : i < ls.length) : ((ls.flatMap mn).drop (i * 2)).take 2 = [.sl (bn ls[i].parts) ls[i].parts.length .none,inA ls[i].div] := kX (f := mn) (fun _ => rfl) h
theorem tz {ls : List Stp} {i : Nat} (h : i < ls.length) : (ls.flatMap mn).getD (i * 2) .u = .sl (bn ls[i].parts) ls[i].parts.length .none := nP (f := mn) (fun _ => rfl) h (by decide)
theorem oi (f : AV → AV) (hf : ∀ v,f (.c v) = .c v) : ∀ M : List Tm,(bn M).map f = bn M
 | [] => rfl
 | m :: r => by rw [bn,List.map_cons,List.map_cons,hf,hf,oi f hf r]
@[go_sem] theorem xZ (g : List (Nat × Nat)) (k : Nat) (M : List Tm) : (bn M).map (ren g (k + 1)) = bn M := oi _ (fun v => rfl) M
@[go_sem] theorem yj (ex : List Nat) (σ : bT) (k : Nat) (M : List Tm) : (bn M).map (eQ ex σ (k + 1)) = bn M := oi _ (fun v => rfl) M
@[go_sem] theorem oo (tk : Bool) (k : Nat) : ∀ M : List Tm,(bn M).flatMap (fw tk (k + 1)) = []
 | [] => rfl
 | m :: r => by rw [bn,List.flatMap_cons,List.flatMap_cons,oo tk k r];rfl
theorem yR (g : List (Nat × Nat)) (M : List Tm) : (bn M).map (ren g 4) = bn M := xZ g 3 M
theorem v6 (ex : List Nat) (σ : bT) (M : List Tm) : (bn M).map (eQ ex σ 4) = bn M := yj ex σ 3 M
theorem uM (tk : Bool) (M : List Tm) : (bn M).flatMap (fw tk 4) = [] := oo tk 3 M
theorem uL (tk : Bool) (M : List Tm) : (bn M).flatMap (fw tk 3) = [] := oo tk 2 M
theorem yQ (g : List (Nat × Nat)) (M : List Tm) : (bn M).map (ren g 3) = bn M := xZ g 2 M
@[go_sem] theorem pg (b k : Nat) : ∀ M : List Tm,(bn M).any (cQ b (k + 1)) = false
 | [] => rfl
 | m :: r => by rw [bn,List.any_cons,List.any_cons,pg b k r];rfl
theorem sU (b : Nat) (M : List Tm) : (bn M).any (cQ b 4) = false := pg b 3 M
attribute [go_sem] sU yR v6 uM uL yQ
theorem qx : cK 1 = .ifc 50 (.c (.int .i64 1)) := rfl
theorem gG : cK 2 = .ifc 50 (.c (.int .i64 2)) := rfl
theorem lP : cK 3 = .ifc 50 (.c (.int .i64 3)) := rfl
theorem dF : cK 5 = .ifc 50 (.c (.int .i64 5)) := rfl
theorem yf : cK 8 = .ifc 50 (.c (.int .i64 8)) := rfl
def cV : Nat → List Nat
 | 0 => [0]
 | 1 => [0]
 | _ => []
theorem nN (k : Int) : AFn Tryz.prog 110 [inA k] [] (.c (.bool (dc k))) [] := by
 by_cases h1 : -1073741824 ≤ k
 ·by_cases h2 : k ≤ 1073741824
  ·rw [show dc k = true from coefB_iff.2 ⟨h1,h2⟩]
   refine bm [] Tryz.func110 rfl Tryz.ntmps110 (Nat.le_of_ble_eq_true rfl) (Nat.le_of_ble_eq_true rfl) fun w0 G0 B0 Pr hB0 => ?_
   simp only [bD,bj,List.cons_append,List.nil_append]
   repeat' (first | (with_reducible refine hY _ ?_;clear hY Y) | ((with_reducible first | refine aX rfl (aR fun K' hK' => aa ?_) | refine hK' _ (ab fun Y hY => aa ?_) | refine aW rfl (ab fun Y hY => aa ?_) | refine ab fun Y hY => aa ?_ | refine aR fun K' hK' => aa ?_ | refine ag tk0 cV (ab fun Y hY => aa ?_) | refine aa ?_ | refine aH ?_);(try clear hK' K');(try dsimp only [aop]);try simp only [go_sem,↓reduceIte,Nat.reduceEqDiff,Nat.reduceLT,Nat.reduceLeDiff,Nat.reduceAdd,Nat.reduceSub,Nat.reduceMul,Nat.reduceBEq,Nat.reduceBNe,Nat.reducePow,Int.reduceToNat,Int.reduceLE,Int.reduceLT,Int.reduceMul,Int.reduceEq,Int.reducePow,Int.reduceAdd,Int.reduceSub,Int.reduceNeg,reduceCtorEq,cV,Tryz.results110,h1,h2]) | (with_reducible first | refine aI ?_ | refine ao ?_ | refine aP ?_ | refine aS ?_ | refine bi fun K hK => ?_ | refine aL ?_) | (with_reducible refine hK _ ?_;clear hK K) | ((with_reducible refine aF ?_ ?_);(· decide)))
  ·rw [show dc k = false by unfold dc;simp [h2]]
   refine bm [] Tryz.func110 rfl Tryz.ntmps110 (Nat.le_of_ble_eq_true rfl) (Nat.le_of_ble_eq_true rfl) fun w0 G0 B0 Pr hB0 => ?_
   simp only [bD,bj,List.cons_append,List.nil_append]
   repeat' (first | (with_reducible refine hY _ ?_;clear hY Y) | ((with_reducible first | refine aX rfl (aR fun K' hK' => aa ?_) | refine hK' _ (ab fun Y hY => aa ?_) | refine aW rfl (ab fun Y hY => aa ?_) | refine ab fun Y hY => aa ?_ | refine aR fun K' hK' => aa ?_ | refine ag tk0 cV (ab fun Y hY => aa ?_) | refine aa ?_ | refine aH ?_);(try clear hK' K');(try dsimp only [aop]);try simp only [go_sem,↓reduceIte,Nat.reduceEqDiff,Nat.reduceLT,Nat.reduceLeDiff,Nat.reduceAdd,Nat.reduceSub,Nat.reduceMul,Nat.reduceBEq,Nat.reduceBNe,Nat.reducePow,Int.reduceToNat,Int.reduceLE,Int.reduceLT,Int.reduceMul,Int.reduceEq,Int.reducePow,Int.reduceAdd,Int.reduceSub,Int.reduceNeg,reduceCtorEq,cV,Tryz.results110,h1,h2]) | (with_reducible first | refine aI ?_ | refine ao ?_ | refine aP ?_ | refine aS ?_ | refine bi fun K hK => ?_ | refine aL ?_) | (with_reducible refine hK _ ?_;clear hK K) | ((with_reducible refine aF ?_ ?_);(· decide)))
 ·rw [show dc k = false by unfold dc;simp [h1]]
  refine bm [] Tryz.func110 rfl Tryz.ntmps110 (Nat.le_of_ble_eq_true rfl) (Nat.le_of_ble_eq_true rfl) fun w0 G0 B0 Pr hB0 => ?_
  simp only [bD,bj,List.cons_append,List.nil_append]
  repeat' (first | (with_reducible refine hY _ ?_;clear hY Y) | ((with_reducible first | refine aX rfl (aR fun K' hK' => aa ?_) | refine hK' _ (ab fun Y hY => aa ?_) | refine aW rfl (ab fun Y hY => aa ?_) | refine ab fun Y hY => aa ?_ | refine ag tk0 cV (ab fun Y hY => aa ?_) | refine aa ?_ | refine aH ?_);(try clear hK' K');(try dsimp only [aop]);try simp only [go_sem,↓reduceIte,Nat.reduceEqDiff,Nat.reduceLT,Nat.reduceLeDiff,Nat.reduceAdd,Nat.reduceSub,Nat.reduceMul,Nat.reduceBEq,Nat.reduceBNe,Nat.reducePow,Int.reduceToNat,Int.reduceLE,Int.reduceLT,Int.reduceMul,Int.reduceEq,Int.reducePow,Int.reduceAdd,Int.reduceSub,Int.reduceNeg,reduceCtorEq,cV,Tryz.results110,h1]) | (with_reducible first | refine aI ?_ | refine am rfl ?_ | refine bg ?_ ?_ | refine aP ?_ | refine aS ?_ | refine bi fun K hK => ?_ | refine aL ?_) | (with_reducible refine hK _ ?_;clear hK K) | ((with_reducible refine aF ?_ ?_);(· decide)))
def cJ : Nat → List Nat
 | 0 => [0]
 | 1 => [0]
 | _ => []
theorem ru (k : Int) : AFn Tryz.prog 111 [inA k] [] (.c (.bool (ku k))) [] := by
 by_cases h1 : 0 ≤ k
 ·by_cases h2 : k < 1048576
  ·rw [show ku k = true by unfold ku;simp [h1,h2]]
   refine bm [] Tryz.func111 rfl Tryz.ntmps111 (Nat.le_of_ble_eq_true rfl) (Nat.le_of_ble_eq_true rfl) fun w0 G0 B0 Pr hB0 => ?_
   simp only [bD,bj,List.cons_append,List.nil_append]
   repeat' (first | (with_reducible refine hY _ ?_;clear hY Y) | ((with_reducible first | refine aX rfl (aR fun K' hK' => aa ?_) | refine hK' _ (ab fun Y hY => aa ?_) | refine aW rfl (ab fun Y hY => aa ?_) | refine ab fun Y hY => aa ?_ | refine aR fun K' hK' => aa ?_ | refine ag tk0 cJ (ab fun Y hY => aa ?_) | refine aa ?_ | refine aH ?_);(try clear hK' K');(try dsimp only [aop]);try simp only [go_sem,↓reduceIte,Nat.reduceEqDiff,Nat.reduceLT,Nat.reduceLeDiff,Nat.reduceAdd,Nat.reduceSub,Nat.reduceMul,Nat.reduceBEq,Nat.reduceBNe,Nat.reducePow,Int.reduceToNat,Int.reduceLE,Int.reduceLT,Int.reduceMul,Int.reduceEq,Int.reducePow,Int.reduceAdd,Int.reduceSub,Int.reduceNeg,reduceCtorEq,cJ,Tryz.results111,h1,h2]) | (with_reducible first | refine aI ?_ | refine ao ?_ | refine aP ?_ | refine aS ?_ | refine bi fun K hK => ?_ | refine aL ?_) | (with_reducible refine hK _ ?_;clear hK K) | ((with_reducible refine aF ?_ ?_);(· decide)))
  ·rw [show ku k = false by unfold ku;simp [h2]]
   refine bm [] Tryz.func111 rfl Tryz.ntmps111 (Nat.le_of_ble_eq_true rfl) (Nat.le_of_ble_eq_true rfl) fun w0 G0 B0 Pr hB0 => ?_
   simp only [bD,bj,List.cons_append,List.nil_append]
   repeat' (first | (with_reducible refine hY _ ?_;clear hY Y) | ((with_reducible first | refine aX rfl (aR fun K' hK' => aa ?_) | refine hK' _ (ab fun Y hY => aa ?_) | refine aW rfl (ab fun Y hY => aa ?_) | refine ab fun Y hY => aa ?_ | refine aR fun K' hK' => aa ?_ | refine ag tk0 cJ (ab fun Y hY => aa ?_) | refine aa ?_ | refine aH ?_);(try clear hK' K');(try dsimp only [aop]);try simp only [go_sem,↓reduceIte,Nat.reduceEqDiff,Nat.reduceLT,Nat.reduceLeDiff,Nat.reduceAdd,Nat.reduceSub,Nat.reduceMul,Nat.reduceBEq,Nat.reduceBNe,Nat.reducePow,Int.reduceToNat,Int.reduceLE,Int.reduceLT,Int.reduceMul,Int.reduceEq,Int.reducePow,Int.reduceAdd,Int.reduceSub,Int.reduceNeg,reduceCtorEq,cJ,Tryz.results111,h1,h2]) | (with_reducible first | refine aI ?_ | refine ao ?_ | refine aP ?_ | refine aS ?_ | refine bi fun K hK => ?_ | refine aL ?_) | (with_reducible refine hK _ ?_;clear hK K) | ((with_reducible refine aF ?_ ?_);(· decide)))
 ·rw [show ku k = false by unfold ku;simp [h1]]
  refine bm [] Tryz.func111 rfl Tryz.ntmps111 (Nat.le_of_ble_eq_true rfl) (Nat.le_of_ble_eq_true rfl) fun w0 G0 B0 Pr hB0 => ?_
  simp only [bD,bj,List.cons_append,List.nil_append]
  repeat' (first | (with_reducible refine hY _ ?_;clear hY Y) | ((with_reducible first | refine aX rfl (aR fun K' hK' => aa ?_) | refine hK' _ (ab fun Y hY => aa ?_) | refine aW rfl (ab fun Y hY => aa ?_) | refine ab fun Y hY => aa ?_ | refine ag tk0 cJ (ab fun Y hY => aa ?_) | refine aa ?_ | refine aH ?_);(try clear hK' K');(try dsimp only [aop]);try simp only [go_sem,↓reduceIte,Nat.reduceEqDiff,Nat.reduceLT,Nat.reduceLeDiff,Nat.reduceAdd,Nat.reduceSub,Nat.reduceMul,Nat.reduceBEq,Nat.reduceBNe,Nat.reducePow,Int.reduceToNat,Int.reduceLE,Int.reduceLT,Int.reduceMul,Int.reduceEq,Int.reducePow,Int.reduceAdd,Int.reduceSub,Int.reduceNeg,reduceCtorEq,cJ,Tryz.results111,h1]) | (with_reducible first | refine aI ?_ | refine am rfl ?_ | refine bg ?_ ?_ | refine aP ?_ | refine aS ?_ | refine bi fun K hK => ?_ | refine aL ?_) | (with_reducible refine hK _ ?_;clear hK K) | ((with_reducible refine aF ?_ ?_);(· decide)))
def c8 : Nat → List Nat
 | 0 => [0]
 | 1 => [0]
 | _ => []
theorem xO (k : Int) : AFn Tryz.prog 129 [inA k] [] (.c (.bool (ju k))) [] := by
 by_cases h1 : k < -4398046511104
 ·rw [show ju k = true by unfold ju;simp [h1]]
  refine bm [] Tryz.func129 rfl Tryz.ntmps129 (Nat.le_of_ble_eq_true rfl) (Nat.le_of_ble_eq_true rfl) fun w0 G0 B0 Pr hB0 => ?_
  simp only [bD,bj,List.cons_append,List.nil_append]
  repeat' (first | (with_reducible refine hY _ ?_;clear hY Y) | ((with_reducible first | refine aX rfl (aR fun K' hK' => aa ?_) | refine hK' _ (ab fun Y hY => aa ?_) | refine aW rfl (ab fun Y hY => aa ?_) | refine ab fun Y hY => aa ?_ | refine ag tk0 c8 (ab fun Y hY => aa ?_) | refine aa ?_ | refine aH ?_);(try clear hK' K');(try dsimp only [aop]);try simp only [go_sem,↓reduceIte,Nat.reduceEqDiff,Nat.reduceLT,Nat.reduceLeDiff,Nat.reduceAdd,Nat.reduceSub,Nat.reduceMul,Nat.reduceBEq,Nat.reduceBNe,Nat.reducePow,Int.reduceToNat,Int.reduceLE,Int.reduceLT,Int.reduceMul,Int.reduceEq,Int.reducePow,Int.reduceAdd,Int.reduceSub,Int.reduceNeg,reduceCtorEq,c8,Tryz.results129,h1]) | (with_reducible first | refine aI ?_ | refine am rfl ?_ | refine bg ?_ ?_ | refine aP ?_ | refine aS ?_ | refine bi fun K hK => ?_ | refine aL ?_) | (with_reducible refine hK _ ?_;clear hK K) | ((with_reducible refine aF ?_ ?_);(· decide)))
 ·by_cases h2 : 4398046511104 < k
  ·rw [show ju k = true by unfold ju;simp [h2]]
   refine bm [] Tryz.func129 rfl Tryz.ntmps129 (Nat.le_of_ble_eq_true rfl) (Nat.le_of_ble_eq_true rfl) fun w0 G0 B0 Pr hB0 => ?_
   simp only [bD,bj,List.cons_append,List.nil_append]
   repeat' (first | (with_reducible refine hY _ ?_;clear hY Y) | ((with_reducible first | refine aX rfl (aR fun K' hK' => aa ?_) | refine hK' _ (ab fun Y hY => aa ?_) | refine aW rfl (ab fun Y hY => aa ?_) | refine ab fun Y hY => aa ?_ | refine aR fun K' hK' => aa ?_ | refine ag tk0 c8 (ab fun Y hY => aa ?_) | refine aa ?_ | refine aH ?_);(try clear hK' K');(try dsimp only [aop]);try simp only [go_sem,↓reduceIte,Nat.reduceEqDiff,Nat.reduceLT,Nat.reduceLeDiff,Nat.reduceAdd,Nat.reduceSub,Nat.reduceMul,Nat.reduceBEq,Nat.reduceBNe,Nat.reducePow,Int.reduceToNat,Int.reduceLE,Int.reduceLT,Int.reduceMul,Int.reduceEq,Int.reducePow,Int.reduceAdd,Int.reduceSub,Int.reduceNeg,reduceCtorEq,c8,Tryz.results129,h1,h2]) | (with_reducible first | refine aI ?_ | refine ao ?_ | refine aP ?_ | refine aS ?_ | refine bi fun K hK => ?_ | refine aL ?_) | (with_reducible refine hK _ ?_;clear hK K) | ((with_reducible refine aF ?_ ?_);(· decide)))
  ·rw [show ju k = false by unfold ju;simp [h1,h2]]
   refine bm [] Tryz.func129 rfl Tryz.ntmps129 (Nat.le_of_ble_eq_true rfl) (Nat.le_of_ble_eq_true rfl) fun w0 G0 B0 Pr hB0 => ?_
   simp only [bD,bj,List.cons_append,List.nil_append]
   repeat' (first | (with_reducible refine hY _ ?_;clear hY Y) | ((with_reducible first | refine aX rfl (aR fun K' hK' => aa ?_) | refine hK' _ (ab fun Y hY => aa ?_) | refine aW rfl (ab fun Y hY => aa ?_) | refine ab fun Y hY => aa ?_ | refine aR fun K' hK' => aa ?_ | refine ag tk0 c8 (ab fun Y hY => aa ?_) | refine aa ?_ | refine aH ?_);(try clear hK' K');(try dsimp only [aop]);try simp only [go_sem,↓reduceIte,Nat.reduceEqDiff,Nat.reduceLT,Nat.reduceLeDiff,Nat.reduceAdd,Nat.reduceSub,Nat.reduceMul,Nat.reduceBEq,Nat.reduceBNe,Nat.reducePow,Int.reduceToNat,Int.reduceLE,Int.reduceLT,Int.reduceMul,Int.reduceEq,Int.reducePow,Int.reduceAdd,Int.reduceSub,Int.reduceNeg,reduceCtorEq,c8,Tryz.results129,h1,h2]) | (with_reducible first | refine aI ?_ | refine ao ?_ | refine aP ?_ | refine aS ?_ | refine bi fun K hK => ?_ | refine aL ?_) | (with_reducible refine hK _ ?_;clear hK K) | ((with_reducible refine aF ?_ ?_);(· decide)))
end Go.Proofs.YtmpdocplcgbpkaaGreatDoor
namespace Go.Proofs.YtmpdocplcgbpkaaGreatDoor
set_option linter.unusedSimpArgs false
set_option linter.unusedVariables false
open Go.RowKit
inductive Fo where
 | mk (k : Int) (l : Ln) (ks : List Fo)
def Fo.kind : Fo → Int
 | .mk k _ _ => k
def Fo.kids : Fo → List Fo
 | .mk _ _ ks => ks
instance : Inhabited Fo := ⟨.mk 0 ⟨0,[]⟩ []⟩
mutual
def foA : Fo → List AV
 | .mk k l ks => [inA k,inA l.c,.sl (bn l.t) l.t.length .none,.sl (cU ks) ks.length .none]
def cU : List Fo → List AV
 | [] => []
 | f :: r => foA f ++ cU r
end
theorem nR : ∀ f,(foA f).length = 4
 | .mk k l ks => by simp [foA]
theorem gw : ∀ l : List Fo,cU l = l.flatMap foA
 | [] => rfl
 | f :: r => by rw [cU,gw r,List.flatMap_cons]
theorem dy (l : List Fo) : (cU l).length = l.length * 4 := by rw [gw];exact kC nR l
theorem fh {l : List Fo} {i : Nat} (h : i < l.length) : ((cU l).drop (i * 4)).take 4 = foA l[i] := by rw [gw];exact kX nR h
mutual
def OkF : Fo → Prop
 | .mk _ l ks => Lg l.t ∧ Lg ks ∧ jF ks
def jF : List Fo → Prop
 | [] => True
 | f :: r => OkF f ∧ jF r
end
theorem g6 : ∀ {l : List Fo},jF l → ∀ f ∈ l,OkF f
 | [],_ => fun f h => absurd h List.not_mem_nil
 | a :: l,h => fun f hf => by
  rcases List.mem_cons.1 hf with rfl | hf
  ·exact h.1
  ·exact g6 h.2 f hf
theorem ou : ∀ {l : List Fo},(∀ f ∈ l,OkF f) → jF l
 | [],_ => trivial
 | a :: l,h => ⟨h a (by simp),ou fun f hf => h f (by simp [hf])⟩
mutual
theorem im {P : Fo → Prop} (step : ∀ k l ks,Lg l.t → Lg ks → jF ks → (∀ f ∈ ks,P f) → P (.mk k l ks)) : ∀ f,OkF f → P f
 | .mk k l ks,h => step k l ks h.1 h.2.1 h.2.2 (rL step ks h.2.2)
theorem rL {P : Fo → Prop} (step : ∀ k l ks,Lg l.t → Lg ks → jF ks → (∀ f ∈ ks,P f) → P (.mk k l ks)) : ∀ ks,jF ks → ∀ f ∈ ks,P f
 | [],_ => fun f h => absurd h List.not_mem_nil
 | a :: r,h => fun f hf => (List.mem_cons.1 hf).elim (fun e => e ▸ im step a h.1) (rL step r h.2 f)
end
def f5 : Nat → Fo → Bool
 | 0,_ => true
 | b + 1,f => f.kids.any (f5 b)
mutual
def tot : Fo → Nat
 | .mk _ _ ks => d3 ks + 1
def d3 : List Fo → Nat
 | [] => 0
 | f :: r => tot f + d3 r
end
mutual
def szF : Fo → Nat
 | .mk _ _ ks => d4 ks 1
def d4 : List Fo → Nat → Nat
 | [],n => n
 | f :: r,n => if n ≤ 4096 then d4 r (n + szF f) else n
end
mutual
theorem sj : ∀ f : Fo,(szF f ≤ 4096 → szF f = tot f) ∧ (4096 < szF f → 4096 < tot f)
 | .mk k l ks => by
  have h := p8 ks 1
  rw [szF,tot]
  exact ⟨fun h1 => by rw [h.1 h1];omega,fun h1 => by have := h.2 h1;omega⟩
theorem p8 : ∀ (l : List Fo) (n : Nat),(d4 l n ≤ 4096 → d4 l n = n + d3 l) ∧ (4096 < d4 l n → 4096 < n + d3 l)
 | [],n => by simp [d4,d3]
 | f :: r,n => by
  have h1 := sj f
  rw [d4,d3]
  split
  ·have h2 := p8 r (n + szF f)
   constructor
   ·intro h3
    have h4 := h2.1 h3
    have h5 := h1.1 (by omega)
    omega
   ·intro h3
    have h4 := h2.2 h3
    by_cases h6 : szF f ≤ 4096
    ·have := h1.1 h6;omega
    ·have := h1.2 (by omega);omega
  ·exact ⟨fun h3 => by omega,fun h3 => by omega⟩
end
theorem sk (b : Nat) : ∀ (l : List Fo) (n : Nat),(∀ f ∈ l,szF f ≤ b) → n ≤ 4096 + b → d4 l n ≤ 4096 + b
 | [],n,_,hn => hn
 | f :: r,n,h,hn => by
  rw [d4]
  split
  ·have := h f (by simp)
   exact sk b r _ (fun x hx => h x (by simp [hx])) (by omega)
  ·exact hn
theorem vl : ∀ (b : Nat) (f : Fo),f5 b f = false → szF f ≤ 4097 * b
 | 0,f,h => by simp [f5] at h
 | b + 1,.mk k l ks,h => by
  rw [f5,List.any_eq_false] at h
  rw [szF]
  have := sk (4097 * b) ks 1 (fun f hf => vl b f (by simpa using h f hf)) (by omega)
  by_cases hb : ks = []
  ·subst hb;simp [d4];omega
  ·omega
def gq (l : Ln) : Bool := decide (l.c = 0) && decide ((l.t.length : Int) = 0)
def okH (k : Int) (l : Ln) (n : Nat) : Bool :=
 if k = 0 ∨ k = 1 then gq l && decide ((n : Int) = 0) else if k = 2 ∨ k = 3 then dg l && decide ((n : Int) = 0) else if k = 4 then gq l && decide ((n : Int) = 1) else if k = 5 ∨ k = 6 then gq l else false
mutual
def f7 : Fo → Bool
 | .mk k l ks => okH k l ks.length && kB ks
def kB : List Fo → Bool
 | [] => true
 | f :: r => f7 f && kB r
end
theorem lQ : ∀ l : List Fo,kB l = l.all f7
 | [] => rfl
 | f :: r => by rw [kB,List.all_cons,lQ r]
theorem vI {α : Type} (p : α → Bool) (l : List α) : (!l.any fun x => !p x) = l.all p := by
 induction l with
 | nil => rfl
 | cons a r ih => rw [List.any_cons,List.all_cons,← ih];cases p a <;> simp
def gk (f : Fo) : Nat := if f5 64 f then 4 else if 4096 < szF f then 2 else if f7 f then 0 else 5
end Go.Proofs.YtmpdocplcgbpkaaGreatDoor
namespace Go.Proofs.YtmpdocplcgbpkaaGreatDoor
set_option linter.unusedSimpArgs false
set_option linter.unusedVariables false
open Go.RowKit Go.ChangeShapes Go.WideShapes
instance : Inhabited Ln := ⟨⟨0,[]⟩⟩
section
variable {H : Type} {enc : TypeId × Value → H} {w : World} {base : Nat} {spare : Nat → Bool} {held : Bool}
theorem m7 {α : Type} {l : List α} {b : Nat} (hb : 0 < b) (h : l.length * b ≤ 140737488351232) : Lg l := by
 have := Nat.le_mul_of_pos_right l.length hb
 unfold Lg;omega
theorem pG (fuel : Nat) : Reads enc Tryz.prog w base spare held 3 (fun z : Int => [inA z]) (fun z => -9223372036854775808 ≤ z ∧ z ≤ 9223372036854775807) fuel := tc Tryz.underlying3 fuel
theorem xe (fuel : Nat) : Reads enc Tryz.prog w base spare held 94 tmA (fun _ => True) fuel :=
 (ef Tryz.underlying94 rfl (n0 := 1) (by kernel_rfl) rfl (n1 := 1) (by kernel_rfl) (by kernel_rfl) (fun n _ => pG n) (fun n _ => pG n)).map id (fun _ => rfl) fun _ _ => trivial
theorem yN (fuel : Nat) : Reads enc Tryz.prog w base spare held 24 lnA (fun l => l.t.length ≤ 8796093022207) fuel :=
 (ef Tryz.underlying24 rfl (n0 := 1) (by kernel_rfl) rfl (n1 := 1) (by kernel_rfl) (by kernel_rfl) (fun n _ => pG n)
  (fun n _ => eE Tryz.underlying22 (s := 2) (by kernel_rfl) (of_decide_eq_true (by kernel_rfl)) (by decide) (fun _ => rfl) fun n _ => xe n)).map (fun p => (⟨p.1,p.2⟩ : Ln)) (fun p => by show [inA p.1,AV.sl (bn p.2) p.2.length .none] = _;rw [ee];rfl)
  fun p h => by have := h.2.2;rw [show Tryz.prog.bytesOf 94 = 16 by kernel_rfl] at this;simp only;omega
end
end Go.Proofs.YtmpdocplcgbpkaaGreatDoor
namespace Go.Proofs.YtmpdocplcgbpkaaGreatDoor
set_option linter.unusedSimpArgs false
set_option linter.unusedVariables false
open Go.RowKit Go.ChangeShapes Go.WideShapes
section
variable {H : Type} {enc : TypeId × Value → H} {P : Program} {w : World} {base : Nat} {spare : Nat → Bool} {held : Bool}
set_option maxHeartbeats 4000000 in
theorem mG {α0 α1 α2 : Type} {t fuel n0 n1 n2 : Nat} {f0 f1 f2 : Field} {A0 : α0 → List AV} {A1 : α1 → List AV} {A2 : α2 → List AV} {Ok0 : α0 → Prop} {Ok1 : α1 → Prop} {Ok2 : α2 → Prop} (ht : P.underlying t = some (.struct #[f0,f1,f2])) (o0 : f0.offset = 0) (s0 : P.cellsOf f0.type = n0) (s1 : P.cellsOf f1.type = n1) (s2 : P.cellsOf f2.type = n2) (o1 : f1.offset = n0) (o2 : f2.offset = n0 + n1)  (st : P.cellsOf t = n0 + n1 + n2)
  (r0 : ∀ n,n < fuel → Reads enc P w base spare held f0.type A0 Ok0 n) (r1 : ∀ n,n < fuel → Reads enc P w base spare held f1.type A1 Ok1 n) (r2 : ∀ n,n < fuel → Reads enc P w base spare held f2.type A2 Ok2 n) :
  Reads enc P w base spare held t (fun p : α0 × α1 × α2 => A0 p.1 ++ (A1 p.2.1 ++ (A2 p.2.2))) (fun p => Ok0 p.1 ∧ Ok1 p.2.1 ∧ Ok2 p.2.2) fuel := fun cs x hx hw => by
 obtain ⟨xs,n,hfuel,rfl,hl,hlen,hf⟩ := DataW.trod_struct ht hx
 have h0 := hf 0 f0 rfl
 have h1 := hf 1 f1 rfl
 have h2 := hf 2 f2 rfl
 match xs,hlen with
 | [y0,y1,y2],_ =>
 rw [o0,s0,List.drop_zero] at h0
 rw [o1,s1] at h1
 rw [o2,s2] at h2
 obtain ⟨a0,k0,p0⟩ := r0 n (by omega) _ _ h0 (weighs_struct ht hw 0 f0 y0.1 rfl rfl)
 obtain ⟨a1,k1,p1⟩ := r1 n (by omega) _ _ h1 (weighs_struct ht hw 1 f1 y1.1 rfl rfl)
 obtain ⟨a2,k2,p2⟩ := r2 n (by omega) _ _ h2 (weighs_struct ht hw 2 f2 y2.1 rfl rfl)
 refine ⟨(a0,a1,a2),⟨k0,k1,k2⟩,?_⟩
 have e2 : cs.drop (n0 + n1) = (cs.drop (n0 + n1)).take n2 := (List.take_of_length_le (by rw [List.length_drop];omega)).symm
 have e1 : cs.drop (n0) = (cs.drop (n0)).take n1 ++ cs.drop (n0 + n1) := by have h := List.take_append_drop n1 (cs.drop (n0));rw [List.drop_drop] at h;exact h.symm
 have e0 : cs = cs.take n0 ++ cs.drop (n0) := (List.take_append_drop n0 cs).symm
 have q2 := p2
 rw [← e2] at q2
 have q1 := PCRel.append p1 q2
 rw [← e1] at q1
 have q0 := PCRel.append p0 q1
 rw [← e0] at q0
 exact q0
end
end Go.Proofs.YtmpdocplcgbpkaaGreatDoor
namespace Go.Proofs.YtmpdocplcgbpkaaGreatDoor
set_option linter.unusedSimpArgs false
set_option linter.unusedVariables false
open Go.RowKit Go.ChangeShapes Go.WideShapes
section
variable {H : Type} {enc : TypeId × Value → H} {w : World} {base : Nat} {spare : Nat → Bool} {held : Bool}
theorem xd : ∀ fuel,Reads enc Tryz.prog w base spare held 27 foA OkF fuel := fun fuel => by
 induction fuel using Nat.strongRecOn with
 | _ fuel ih =>
 exact (mG Tryz.underlying27 rfl (n0 := 1) (by kernel_rfl) (n1 := 2) (by kernel_rfl) (n2 := 1) (by kernel_rfl) rfl rfl (by kernel_rfl)
  (fun n _ => pG n) (fun n _ => yN n)
  (fun n hn => eE Tryz.underlying25 (s := 4) (by kernel_rfl) (of_decide_eq_true (by kernel_rfl)) (by decide) nR fun m hm => ih m (by omega))).map (fun p => (.mk p.1 p.2.1 p.2.2 : Fo))
  (fun p => by rw [foA,gw];rfl) fun p h => ⟨by have := h.2.1;unfold Lg;omega,m7 (of_decide_eq_true (by kernel_rfl)) h.2.2.2,ou h.2.2.1⟩
end
end Go.Proofs.YtmpdocplcgbpkaaGreatDoor

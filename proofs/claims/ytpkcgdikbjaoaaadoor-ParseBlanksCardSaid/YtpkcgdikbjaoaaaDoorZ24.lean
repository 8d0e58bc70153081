/- The document's Same, on trees that are alike, in K: words, expressions, conditions. The document's Same, on trees that are alike, in K: assertions, statements, programs. How long the rows of a parsed program are. -/
import Derived.Test.YtpkcgdikbjaoaaaDoorZ12
import Derived.Test.YtpkcgdikbjaoaaaDoorZ7
import Derived.Test.YtpkcgdikbjaoaaaDoorZ21
namespace Go.Proofs.YtpkcgdikbjaoaaaDoor
set_option linter.unusedSimpArgs false
set_option linter.unusedVariables false
open Go.RowKit
theorem nr : ∀ l : List Ex, b4 l = l.flatMap exA
  | [] => rfl
  | e :: r => by rw [b4, nr r, List.flatMap_cons]
theorem nE : ∀ l : List Co, eG l = l.flatMap coA
  | [] => rfl
  | e :: r => by rw [eG, nE r, List.flatMap_cons]
theorem no : ∀ l : List As, gK l = l.flatMap asA
  | [] => rfl
  | e :: r => by rw [gK, no r, List.flatMap_cons]
theorem nD : ∀ l : List St, dz l = l.flatMap stW
  | [] => rfl
  | e :: r => by rw [dz, nD r, List.flatMap_cons]
theorem nO : ∀ l : List Pc, d9 l = l.flatMap pcW
  | [] => rfl
  | e :: r => by rw [d9, nO r, List.flatMap_cons]
theorem tb {l : List Ex} {i : Nat} (h : i < l.length) : ((b4 l).drop (i * 4)).take 4 = exA l[i] := by rw [nr]; exact iz gE h
theorem sG {l : List Co} {i : Nat} (h : i < l.length) : ((eG l).drop (i * 3)).take 3 = coA l[i] := by rw [nE]; exact iz gI h
theorem sj {l : List As} {i : Nat} (h : i < l.length) : ((gK l).drop (i * 15)).take 15 = asA l[i] := by rw [no]; exact iz gb h
theorem rq {l : List St} {i : Nat} (h : i < l.length) : ((dz l).drop (i * 35)).take 35 = stW l[i] := by rw [nD]; exact iz nY h
theorem rj {l : List Pc} {i : Nat} (h : i < l.length) : ((d9 l).drop (i * 34)).take 34 = pcW l[i] := by rw [nO]; exact iz nq h
def ofB : Bool → Own
  | true => .full
  | false => .none
@[go_sem] theorem tj (tk : Bool) (k : Nat) (cs : List AV) (n : Nat) (b : Bool) : names tk (k + 1) (.sl cs n (ofB b)) = [] := by cases b <;> rfl
@[go_sem] theorem ua (g : List (Nat × Nat)) (k : Nat) (cs : List AV) (n : Nat) (b : Bool) : ren g (k + 1) (.sl cs n (ofB b)) = .sl cs n (ofB b) := by cases b <;> rfl
@[go_sem] theorem tU (ex : List Nat) (σ : aI) (k : Nat) (cs : List AV) (n : Nat) (b : Bool) : dX ex σ (k + 1) (.sl cs n (ofB b)) = .sl cs n (ofB b) := by cases b <;> rfl
@[go_sem] theorem sR (d k : Nat) (cs : List AV) (n : Nat) (b : Bool) : cd d (k + 1) (.sl cs n (ofB b)) = false := by cases b <;> rfl
@[go_sem] theorem td (ex : List Nat) (σ : aI) (k : Nat) (cs : List AV) (n : Nat) (b : Bool) : dj ex σ (k + 1) (.sl cs n (ofB b)) = .sl cs n (ofB b) := by cases b <;> rfl
@[go_sem] theorem th (k : Nat) (cs : List AV) (n : Nat) (b : Bool) : cv (k + 1) (.sl cs n (ofB b)) = some (.sl cs n (ofB b)) := by cases b <;> rfl
def Lim : Nat := 80000
mutual
def dZ : Ex → Prop
  | .mk k n x ks => ks.length ≤ Lim ∧ fO ks
def fO : List Ex → Prop
  | [] => True
  | e :: r => dZ e ∧ fO r
end
mutual
def eD : Co → Prop
  | .mk k e ks => (e.length ≤ Lim ∧ fO e) ∧ ks.length ≤ Lim ∧ pS ks
def pS : List Co → Prop
  | [] => True
  | e :: r => eD e ∧ pS r
end
mutual
def fI : As → Prop
  | .mk k c e v f n ks => eD c ∧ dZ e ∧ dZ v ∧ ks.length ≤ Lim ∧ pq ks
def pq : List As → Prop
  | [] => True
  | e :: r => fI e ∧ pq r
end
mutual
def gi : St → Prop
  | .mk k x f y e v c a rs gs fs b l => dZ e ∧ dZ v ∧ eD c ∧ fI a ∧ (rs.length ≤ Lim ∧ fO rs) ∧ (gs.length ≤ Lim ∧ fO gs) ∧ fs.length ≤ Lim ∧ (b.length ≤ Lim ∧ fy b) ∧ (l.length ≤ Lim ∧ fy l)
def fy : List St → Prop
  | [] => True
  | e :: r => gi e ∧ fy r
end
def oY (p : Pc) : Prop := p.params.length ≤ Lim ∧ p.ghosts.length ≤ Lim ∧ fI p.pre ∧ fI p.post ∧ p.body.length ≤ Lim ∧ fy p.body
def a3 : Nat → List Nat
  | 0 => [0, 1]
  | 1 => [0, 1]
  | 2 => []
  | 3 => [0, 1]
  | 4 => [0, 1, 5]
  | 5 => [0, 1, 5]
  | 6 => [0, 1, 5]
  | 7 => []
  | 8 => []
  | _ => []
set_option maxRecDepth 100000 in
set_option maxHeartbeats 4000000 in
theorem fJ (l : List Wd) (o1 o2 : Bool) (hl : l.length ≤ Lim) : AFn Tryd.prog 14 [.sl (l.map bs) l.length (ofB o1), .sl (l.map bs) l.length (ofB o2)] [] (.c (.bool true)) [] := by
  unfold Lim at hl
  refine aM [] Tryd.func14 rfl Tryd.ntmps14 (Nat.le_of_ble_eq_true rfl) (Nat.le_of_ble_eq_true rfl) fun w0 G0 B0 Pr hB0 => ?_
  simp only [aS, aJ, List.cons_append, List.nil_append]
  repeat' (first | (with_reducible refine hY _ ?_; clear hY Y) | ((with_reducible first | refine aD rfl (aN fun K' hK' => ab ?_) | refine hK' _ (ac fun Y hY => ab ?_) | refine ac fun Y hY => ab ?_ | refine ae tk0 a3 (ac fun Y hY => ab ?_)); (try clear hK' K'); (try dsimp only [aop]); try simp only [go_sem, ↓reduceIte, Nat.reduceEqDiff, Nat.reduceLT, Nat.reduceLeDiff, Nat.reduceAdd, Nat.reduceSub, Nat.reduceMul, Nat.reduceBEq, Nat.reduceBNe, Nat.reducePow, Int.reduceToNat, Int.reduceLE, Int.reduceLT, Int.reduceMul, Int.reduceEq, Int.reducePow, Int.reduceAdd, Int.reduceSub, Int.reduceNeg, reduceCtorEq, a3, Tryd.results14]) | (with_reducible first | refine aj ?_ | refine ar ?_ | refine au ?_ | refine aT fun K hK => ?_ | refine aC ?_ | refine ax ?_ | refine aP ?_ | refine bZ ?_) | (with_reducible refine hK _ ?_; clear hK K) | ((with_reducible refine al ?_ ?_); (· decide)))
  refine b7 (α := Nat) (fun k => [(0, .sl (l.map bs) l.length (ofB o1)), (1, .sl (l.map bs) l.length (ofB o2)), (5, .c (.int .i64 (k : Int)))])
    (fun k => k ≤ l.length) (fun k => l.length - k) 0 [0, 1, 5] ?_ (Nat.zero_le _) ?_
  · simp only [go_sem, ↓reduceIte, Nat.reduceEqDiff, Nat.reduceLT, Nat.reduceLeDiff, Nat.reduceAdd, Nat.reduceSub, Nat.reduceMul, Nat.reduceBEq, Nat.reduceBNe, Nat.reducePow, Int.reduceToNat, Int.reduceLE, Int.reduceLT, Int.reduceMul, Int.reduceEq, Int.reducePow, Int.reduceAdd, Int.reduceSub, Int.reduceNeg, reduceCtorEq] <;> rfl
  intro k hk ih
  by_cases hlt : k < l.length
  · have hlt' : ((k : Int) < (l.length : Int)) = True := eq_true (by omega)
    have hkw : IntKind.i64.wrap ((k : Int) + 1) = ((k + 1 : Nat) : Int) := by rw [bX (by omega) (by omega)]; rfl
    have hg0 := kV (f := bs) hlt
    have hfl : (l.map bs).length = l.length := List.length_map ..
    generalize l[k] = t at *
    repeat' (first | (with_reducible refine hY _ ?_; clear hY Y) | ((with_reducible first | refine aD rfl (aN fun K' hK' => ab ?_) | refine hK' _ (ac fun Y hY => ab ?_) | refine ac fun Y hY => ab ?_ | refine ae tk0 a3 (ac fun Y hY => ab ?_) | refine ab ?_ | refine dg rfl (dp fun K' hK' => ab ?_) | refine hK' _ _ (ac fun Y hY => ab ?_)); (try clear hK' K'); (try dsimp only [aop]); try simp only [go_sem, ↓reduceIte, Nat.reduceEqDiff, Nat.reduceLT, Nat.reduceLeDiff, Nat.reduceAdd, Nat.reduceSub, Nat.reduceMul, Nat.reduceBEq, Nat.reduceBNe, Nat.reducePow, Int.reduceToNat, Int.reduceLE, Int.reduceLT, Int.reduceMul, Int.reduceEq, Int.reducePow, Int.reduceAdd, Int.reduceSub, Int.reduceNeg, reduceCtorEq, a3, Tryd.results14, hlt', hfl, hg0, hkw, beq_self_eq_true]) | (with_reducible first | refine aj ?_ | refine ar ?_ | refine au ?_ | refine aT fun K hK => ?_ | refine aK ?_ | refine aC ?_ | refine a8 ?_ | refine ax ?_ | refine aP ?_ | refine cn ?_ | refine gT fun K hK => ?_) | (with_reducible refine hK _ ?_; clear hK K) | (with_reducible refine hK _ _ ?_ ?_; (· kernel_rfl); clear hK K) | ((with_reducible refine al ?_ ?_); (· decide)) | (with_reducible refine cj tk0 a3 ?_ ?_; (· kernel_rfl)) | (with_reducible refine bT ?_ ?_; (· (try and_intros) <;> first | omega | assumption | (simp only [List.length_append, List.length_map, List.length_cons, List.length_nil] <;> omega))) | (with_reducible refine bE (cm _) ?_))
    refine bI [0, 1, 5] (by simp only [go_sem, ↓reduceIte, Nat.reduceEqDiff, Nat.reduceLT, Nat.reduceLeDiff, Nat.reduceAdd, Nat.reduceSub, Nat.reduceMul, Nat.reduceBEq, Nat.reduceBNe, Nat.reducePow, Int.reduceToNat, Int.reduceLE, Int.reduceLT, Int.reduceMul, Int.reduceEq, Int.reducePow, Int.reduceAdd, Int.reduceSub, Int.reduceNeg, reduceCtorEq]; exact rfl) ?_
    exact ih (k + 1) (by omega) (by omega)
  · have hlt' : ((k : Int) < (l.length : Int)) = False := eq_false (by omega)
    repeat' (first | (with_reducible refine hY _ ?_; clear hY Y) | ((with_reducible first | refine aD rfl (aN fun K' hK' => ab ?_) | refine hK' _ (ac fun Y hY => ab ?_) | refine ac fun Y hY => ab ?_ | refine ae tk0 a3 (ac fun Y hY => ab ?_) | refine ab ?_ | refine av ?_); (try clear hK' K'); (try dsimp only [aop]); try simp only [go_sem, ↓reduceIte, Nat.reduceEqDiff, Nat.reduceLT, Nat.reduceLeDiff, Nat.reduceAdd, Nat.reduceSub, Nat.reduceMul, Nat.reduceBEq, Nat.reduceBNe, Nat.reducePow, Int.reduceToNat, Int.reduceLE, Int.reduceLT, Int.reduceMul, Int.reduceEq, Int.reducePow, Int.reduceAdd, Int.reduceSub, Int.reduceNeg, reduceCtorEq, a3, Tryd.results14, hlt']) | (with_reducible first | refine aj ?_ | refine ar ?_ | refine au ?_ | refine aT fun K hK => ?_ | refine aC ?_ | refine b3 ?_ | refine bG ?_ | refine aF ?_ | refine bH ?_) | (with_reducible refine hK _ ?_; clear hK K) | ((with_reducible refine al ?_ ?_); (· decide)))
theorem dJ {α : Type} {P : α → Prop} {a : α} {l : List α} (h : P a) (k : ∀ e ∈ l, P e) : ∀ e ∈ a :: l, P e := fun e he => by
  rcases List.mem_cons.1 he with rfl | he
  · exact h
  · exact k e he
def nK (e : Ex) : Prop := ∀ o1 o2 : Bool, AFn Tryd.prog 30 [.agg (match e with | .mk k n x ks => [inA (k : Int), inA n, bs x, .sl (b4 ks) ks.length (ofB o1)]), .agg (match e with | .mk k n x ks => [inA (k : Int), inA n, bs x, .sl (b4 ks) ks.length (ofB o2)])] [] (.c (.bool true)) []
def ba : Nat → List Nat
  | 0 => [0, 1]
  | 1 => [0, 1]
  | 2 => []
  | 3 => [0, 1]
  | 4 => [0, 1, 5]
  | 5 => [0, 1, 5]
  | 6 => [0, 1, 5]
  | 7 => [0, 1, 5, 6]
  | 8 => []
  | 9 => []
  | _ => []
set_option maxRecDepth 100000 in
set_option maxHeartbeats 4000000 in
theorem lT (l : List Ex) (hl : l.length ≤ Lim) (h : ∀ e ∈ l, nK e) (o1 o2 : Bool) : AFn Tryd.prog 31 [.sl (b4 l) l.length (ofB o1), .sl (b4 l) l.length (ofB o2)] [] (.c (.bool true)) [] := by
  unfold Lim at hl
  refine aM [] Tryd.func31 rfl Tryd.ntmps31 (Nat.le_of_ble_eq_true rfl) (Nat.le_of_ble_eq_true rfl) fun w0 G0 B0 Pr hB0 => ?_
  simp only [aS, aJ, List.cons_append, List.nil_append]
  repeat' (first | (with_reducible refine hY _ ?_; clear hY Y) | ((with_reducible first | refine aD rfl (aN fun K' hK' => ab ?_) | refine hK' _ (ac fun Y hY => ab ?_) | refine ac fun Y hY => ab ?_ | refine ae tk0 ba (ac fun Y hY => ab ?_)); (try clear hK' K'); (try dsimp only [aop]); try simp only [go_sem, ↓reduceIte, Nat.reduceEqDiff, Nat.reduceLT, Nat.reduceLeDiff, Nat.reduceAdd, Nat.reduceSub, Nat.reduceMul, Nat.reduceBEq, Nat.reduceBNe, Nat.reducePow, Int.reduceToNat, Int.reduceLE, Int.reduceLT, Int.reduceMul, Int.reduceEq, Int.reducePow, Int.reduceAdd, Int.reduceSub, Int.reduceNeg, reduceCtorEq, ba, Tryd.results31]) | (with_reducible first | refine aj ?_ | refine ar ?_ | refine au ?_ | refine aT fun K hK => ?_ | refine aC ?_ | refine ax ?_ | refine aP ?_ | refine bZ ?_) | (with_reducible refine hK _ ?_; clear hK K) | ((with_reducible refine al ?_ ?_); (· decide)))
  refine b7 (α := Nat) (fun k => [(0, .sl (b4 l) l.length (ofB o1)), (1, .sl (b4 l) l.length (ofB o2)), (5, .c (.int .i64 (k : Int)))])
    (fun k => k ≤ l.length) (fun k => l.length - k) 0 [0, 1, 5] ?_ (Nat.zero_le _) ?_
  · simp only [go_sem, ↓reduceIte, Nat.reduceEqDiff, Nat.reduceLT, Nat.reduceLeDiff, Nat.reduceAdd, Nat.reduceSub, Nat.reduceMul, Nat.reduceBEq, Nat.reduceBNe, Nat.reducePow, Int.reduceToNat, Int.reduceLE, Int.reduceLT, Int.reduceMul, Int.reduceEq, Int.reducePow, Int.reduceAdd, Int.reduceSub, Int.reduceNeg, reduceCtorEq] <;> rfl
  intro k hk ih
  by_cases hlt : k < l.length
  · have hlt' : ((k : Int) < (l.length : Int)) = True := eq_true (by omega)
    have hkw : IntKind.i64.wrap ((k : Int) + 1) = ((k + 1 : Nat) : Int) := by rw [bX (by omega) (by omega)]; rfl
    have hg0 := tb hlt
    have hfl := jj l
    have h1 := h l[k] (List.getElem_mem hlt) true true
    generalize l[k] = t at *
    obtain ⟨ek, en, ex, eks⟩ := t
    simp only [exA] at hg0
    simp only [ofB] at h1
    repeat' (first | (with_reducible refine hY _ ?_; clear hY Y) | ((with_reducible first | refine aD rfl (aN fun K' hK' => ab ?_) | refine hK' _ (ac fun Y hY => ab ?_) | refine ac fun Y hY => ab ?_ | refine ae tk0 ba (ac fun Y hY => ab ?_) | refine ab ?_ | refine dg rfl (dp fun K' hK' => ab ?_) | refine hK' _ _ (ac fun Y hY => ab ?_)); (try clear hK' K'); (try dsimp only [aop]); try simp only [go_sem, ↓reduceIte, Nat.reduceEqDiff, Nat.reduceLT, Nat.reduceLeDiff, Nat.reduceAdd, Nat.reduceSub, Nat.reduceMul, Nat.reduceBEq, Nat.reduceBNe, Nat.reducePow, Int.reduceToNat, Int.reduceLE, Int.reduceLT, Int.reduceMul, Int.reduceEq, Int.reducePow, Int.reduceAdd, Int.reduceSub, Int.reduceNeg, reduceCtorEq, ba, Tryd.results31, hlt', hfl, hg0, hkw, beq_self_eq_true]) | (with_reducible first | refine aj ?_ | refine ar ?_ | refine au ?_ | refine aT fun K hK => ?_ | refine aK ?_ | refine aC ?_ | refine a8 ?_ | refine ax ?_ | refine aP ?_ | refine cn ?_ | refine gT fun K hK => ?_) | (with_reducible refine hK _ ?_; clear hK K) | (with_reducible refine hK _ _ ?_ ?_; (· kernel_rfl); clear hK K) | ((with_reducible refine al ?_ ?_); (· decide)) | (with_reducible refine cj tk0 ba ?_ ?_; (· kernel_rfl)) | (with_reducible refine bT ?_ ?_; (· (try and_intros) <;> first | omega | assumption | (simp only [List.length_append, List.length_map, List.length_cons, List.length_nil] <;> omega))) | (with_reducible refine aa (h1) ?_))
    refine bI [0, 1, 5] (by simp only [go_sem, ↓reduceIte, Nat.reduceEqDiff, Nat.reduceLT, Nat.reduceLeDiff, Nat.reduceAdd, Nat.reduceSub, Nat.reduceMul, Nat.reduceBEq, Nat.reduceBNe, Nat.reducePow, Int.reduceToNat, Int.reduceLE, Int.reduceLT, Int.reduceMul, Int.reduceEq, Int.reducePow, Int.reduceAdd, Int.reduceSub, Int.reduceNeg, reduceCtorEq]; exact rfl) ?_
    exact ih (k + 1) (by omega) (by omega)
  · have hlt' : ((k : Int) < (l.length : Int)) = False := eq_false (by omega)
    repeat' (first | (with_reducible refine hY _ ?_; clear hY Y) | ((with_reducible first | refine aD rfl (aN fun K' hK' => ab ?_) | refine hK' _ (ac fun Y hY => ab ?_) | refine ac fun Y hY => ab ?_ | refine ae tk0 ba (ac fun Y hY => ab ?_) | refine ab ?_ | refine av ?_); (try clear hK' K'); (try dsimp only [aop]); try simp only [go_sem, ↓reduceIte, Nat.reduceEqDiff, Nat.reduceLT, Nat.reduceLeDiff, Nat.reduceAdd, Nat.reduceSub, Nat.reduceMul, Nat.reduceBEq, Nat.reduceBNe, Nat.reducePow, Int.reduceToNat, Int.reduceLE, Int.reduceLT, Int.reduceMul, Int.reduceEq, Int.reducePow, Int.reduceAdd, Int.reduceSub, Int.reduceNeg, reduceCtorEq, ba, Tryd.results31, hlt']) | (with_reducible first | refine aj ?_ | refine ar ?_ | refine au ?_ | refine aT fun K hK => ?_ | refine aC ?_ | refine b3 ?_ | refine bG ?_ | refine aF ?_ | refine bH ?_) | (with_reducible refine hK _ ?_; clear hK K) | ((with_reducible refine al ?_ ?_); (· decide)))
def cy : Nat → List Nat
  | 0 => [0, 1]
  | 1 => [2, 3]
  | _ => []
set_option maxRecDepth 100000 in
set_option maxHeartbeats 4000000 in
theorem rk (k : Nat) (n : Int) (x : Wd) (ks : List Ex) (h : ∀ o1 o2 : Bool, AFn Tryd.prog 31 [.sl (b4 ks) ks.length (ofB o1), .sl (b4 ks) ks.length (ofB o2)] [] (.c (.bool true)) []) : nK (.mk k n x ks) := fun o1 o2 => by
  have h1 := h o1 o2
  simp only
  refine aM [] Tryd.func30 rfl Tryd.ntmps30 (Nat.le_of_ble_eq_true rfl) (Nat.le_of_ble_eq_true rfl) fun w0 G0 B0 Pr hB0 => ?_
  simp only [aS, aJ, List.cons_append, List.nil_append]
  repeat' (first | (with_reducible refine hY _ ?_; clear hY Y) | ((with_reducible first | refine aD rfl (aN fun K' hK' => ab ?_) | refine hK' _ (ac fun Y hY => ab ?_) | refine bV rfl (ac fun Y hY => ab ?_) | refine ac fun Y hY => ab ?_ | refine aN fun K' hK' => ab ?_ | refine ae tk0 cy (ac fun Y hY => ab ?_) | refine ab ?_ | refine av ?_); (try clear hK' K'); (try dsimp only [aop]); try simp only [go_sem, ↓reduceIte, Nat.reduceEqDiff, Nat.reduceLT, Nat.reduceLeDiff, Nat.reduceAdd, Nat.reduceSub, Nat.reduceMul, Nat.reduceBEq, Nat.reduceBNe, Nat.reducePow, Int.reduceToNat, Int.reduceLE, Int.reduceLT, Int.reduceMul, Int.reduceEq, Int.reducePow, Int.reduceAdd, Int.reduceSub, Int.reduceNeg, reduceCtorEq, cy, Tryd.results30, beq_self_eq_true]) | (with_reducible first | refine aj ?_ | refine bl ?_ | refine ar ?_ | refine au ?_ | refine aT fun K hK => ?_ | refine aF ?_) | (with_reducible refine hK _ ?_; clear hK K) | ((with_reducible refine bh ?_ ?_); (· decide)) | (with_reducible refine aa (h1) ?_) | (with_reducible refine bE (cm _) ?_))
mutual
theorem gL : ∀ e, dZ e → nK e
  | .mk k n x ks, h => rk k n x ks (lT ks h.1 (ik ks h.2))
theorem ik : ∀ l, fO l → ∀ e ∈ l, nK e
  | [], _ => fun e he => absurd he List.not_mem_nil
  | a :: l, h => dJ (gL a h.1) (ik l h.2)
end
theorem jJ (l : List Ex) (h : l.length ≤ Lim ∧ fO l) (o1 o2 : Bool) : AFn Tryd.prog 31 [.sl (b4 l) l.length (ofB o1), .sl (b4 l) l.length (ofB o2)] [] (.c (.bool true)) [] := lT l h.1 (ik l h.2) o1 o2
def m9 (e : Co) : Prop := ∀ o1 o2 o3 o4 : Bool, AFn Tryd.prog 29 [.agg (match e with | .mk k e ks => [inA (k : Int), .sl (b4 e) e.length (ofB o1), .sl (eG ks) ks.length (ofB o2)]), .agg (match e with | .mk k e ks => [inA (k : Int), .sl (b4 e) e.length (ofB o3), .sl (eG ks) ks.length (ofB o4)])] [] (.c (.bool true)) []
def bg : Nat → List Nat
  | 0 => [0, 1]
  | 1 => [2, 3]
  | 2 => []
  | 3 => [2, 3]
  | 4 => [2, 3, 5]
  | 5 => [2, 3, 5]
  | 6 => [2, 3, 5]
  | 7 => [2, 3, 5, 6]
  | 8 => []
  | 9 => []
  | _ => []
set_option maxRecDepth 100000 in
set_option maxHeartbeats 4000000 in
theorem q8 (kd : Nat) (es : List Ex) (l : List Co) (he : es.length ≤ Lim ∧ fO es) (hl : l.length ≤ Lim) (h : ∀ e ∈ l, m9 e) : m9 (.mk kd es l) := fun o1 o2 o3 o4 => by
  have h1 := jJ es he o1 o3
  unfold Lim at hl
  simp only
  refine aM [] Tryd.func29 rfl Tryd.ntmps29 (Nat.le_of_ble_eq_true rfl) (Nat.le_of_ble_eq_true rfl) fun w0 G0 B0 Pr hB0 => ?_
  simp only [aS, aJ, List.cons_append, List.nil_append]
  repeat' (first | (with_reducible refine hY _ ?_; clear hY Y) | ((with_reducible first | refine aD rfl (aN fun K' hK' => ab ?_) | refine hK' _ (ac fun Y hY => ab ?_) | refine bV rfl (ac fun Y hY => ab ?_) | refine ac fun Y hY => ab ?_ | refine aN fun K' hK' => ab ?_ | refine ae tk0 bg (ac fun Y hY => ab ?_) | refine ab ?_); (try clear hK' K'); (try dsimp only [aop]); try simp only [go_sem, ↓reduceIte, Nat.reduceEqDiff, Nat.reduceLT, Nat.reduceLeDiff, Nat.reduceAdd, Nat.reduceSub, Nat.reduceMul, Nat.reduceBEq, Nat.reduceBNe, Nat.reducePow, Int.reduceToNat, Int.reduceLE, Int.reduceLT, Int.reduceMul, Int.reduceEq, Int.reducePow, Int.reduceAdd, Int.reduceSub, Int.reduceNeg, reduceCtorEq, bg, Tryd.results29, beq_self_eq_true]) | (with_reducible first | refine aj ?_ | refine bl ?_ | refine ar ?_ | refine au ?_ | refine aT fun K hK => ?_ | refine aC ?_ | refine ax ?_ | refine aP ?_ | refine bZ ?_) | (with_reducible refine hK _ ?_; clear hK K) | ((with_reducible first | refine bh ?_ ?_ | refine al ?_ ?_); (· decide)) | (with_reducible refine aa (h1) ?_))
  refine b7 (α := Nat) (fun k => [(2, .loc 10002 0), (3, .loc 10003 0), (5, .c (.int .i64 (k : Int))), (10002, .bc [inA (kd : Int), .sl (b4 es) es.length (ofB o1), .sl (eG l) l.length (ofB o2)] 41), (10003, .bc [inA (kd : Int), .sl (b4 es) es.length (ofB o3), .sl (eG l) l.length (ofB o4)] 41)])
    (fun k => k ≤ l.length) (fun k => l.length - k) 0 [2, 3, 5] ?_ (Nat.zero_le _) ?_
  · simp only [go_sem, ↓reduceIte, Nat.reduceEqDiff, Nat.reduceLT, Nat.reduceLeDiff, Nat.reduceAdd, Nat.reduceSub, Nat.reduceMul, Nat.reduceBEq, Nat.reduceBNe, Nat.reducePow, Int.reduceToNat, Int.reduceLE, Int.reduceLT, Int.reduceMul, Int.reduceEq, Int.reducePow, Int.reduceAdd, Int.reduceSub, Int.reduceNeg, reduceCtorEq] <;> rfl
  intro k hk ih
  by_cases hlt : k < l.length
  · have hlt' : ((k : Int) < (l.length : Int)) = True := eq_true (by omega)
    have hkw : IntKind.i64.wrap ((k : Int) + 1) = ((k + 1 : Nat) : Int) := by rw [bX (by omega) (by omega)]; rfl
    have hg0 := sG hlt
    have hfl := lQ l
    have h2 := h l[k] (List.getElem_mem hlt) true true true true
    generalize l[k] = t at *
    obtain ⟨ck, ce, cks⟩ := t
    simp only [coA] at hg0
    simp only [ofB] at h2
    repeat' (first | (with_reducible refine hY _ ?_; clear hY Y) | ((with_reducible first | refine aD rfl (aN fun K' hK' => ab ?_) | refine hK' _ (ac fun Y hY => ab ?_) | refine ac fun Y hY => ab ?_ | refine ae tk0 bg (ac fun Y hY => ab ?_) | refine ab ?_ | refine dg rfl (dp fun K' hK' => ab ?_) | refine hK' _ _ (ac fun Y hY => ab ?_)); (try clear hK' K'); (try dsimp only [aop]); try simp only [go_sem, ↓reduceIte, Nat.reduceEqDiff, Nat.reduceLT, Nat.reduceLeDiff, Nat.reduceAdd, Nat.reduceSub, Nat.reduceMul, Nat.reduceBEq, Nat.reduceBNe, Nat.reducePow, Int.reduceToNat, Int.reduceLE, Int.reduceLT, Int.reduceMul, Int.reduceEq, Int.reducePow, Int.reduceAdd, Int.reduceSub, Int.reduceNeg, reduceCtorEq, bg, Tryd.results29, hlt', hfl, hg0, hkw, beq_self_eq_true]) | (with_reducible first | refine aj ?_ | refine ar ?_ | refine au ?_ | refine aT fun K hK => ?_ | refine aK ?_ | refine aC ?_ | refine a8 ?_ | refine ax ?_ | refine aP ?_ | refine cn ?_ | refine gT fun K hK => ?_) | (with_reducible refine hK _ ?_; clear hK K) | (with_reducible refine hK _ _ ?_ ?_; (· kernel_rfl); clear hK K) | ((with_reducible refine al ?_ ?_); (· decide)) | (with_reducible refine cj tk0 bg ?_ ?_; (· kernel_rfl)) | (with_reducible refine bT ?_ ?_; (· (try and_intros) <;> first | omega | assumption | (simp only [List.length_append, List.length_map, List.length_cons, List.length_nil] <;> omega))) | (with_reducible refine aa (h2) ?_))
    refine bI [2, 3, 5] (by simp only [go_sem, ↓reduceIte, Nat.reduceEqDiff, Nat.reduceLT, Nat.reduceLeDiff, Nat.reduceAdd, Nat.reduceSub, Nat.reduceMul, Nat.reduceBEq, Nat.reduceBNe, Nat.reducePow, Int.reduceToNat, Int.reduceLE, Int.reduceLT, Int.reduceMul, Int.reduceEq, Int.reducePow, Int.reduceAdd, Int.reduceSub, Int.reduceNeg, reduceCtorEq]; exact rfl) ?_
    exact ih (k + 1) (by omega) (by omega)
  · have hlt' : ((k : Int) < (l.length : Int)) = False := eq_false (by omega)
    repeat' (first | (with_reducible refine hY _ ?_; clear hY Y) | ((with_reducible first | refine aD rfl (aN fun K' hK' => ab ?_) | refine hK' _ (ac fun Y hY => ab ?_) | refine ac fun Y hY => ab ?_ | refine ae tk0 bg (ac fun Y hY => ab ?_) | refine ab ?_ | refine av ?_); (try clear hK' K'); (try dsimp only [aop]); try simp only [go_sem, ↓reduceIte, Nat.reduceEqDiff, Nat.reduceLT, Nat.reduceLeDiff, Nat.reduceAdd, Nat.reduceSub, Nat.reduceMul, Nat.reduceBEq, Nat.reduceBNe, Nat.reducePow, Int.reduceToNat, Int.reduceLE, Int.reduceLT, Int.reduceMul, Int.reduceEq, Int.reducePow, Int.reduceAdd, Int.reduceSub, Int.reduceNeg, reduceCtorEq, bg, Tryd.results29, hlt']) | (with_reducible first | refine aj ?_ | refine ar ?_ | refine au ?_ | refine aT fun K hK => ?_ | refine aC ?_ | refine b3 ?_ | refine bG ?_ | refine aF ?_ | refine bH ?_) | (with_reducible refine hK _ ?_; clear hK K) | ((with_reducible refine al ?_ ?_); (· decide)))
mutual
theorem kS : ∀ e, eD e → m9 e
  | .mk k e ks, h => q8 k e ks h.1 h.2.1 (kG ks h.2.2)
theorem kG : ∀ l, pS l → ∀ e ∈ l, m9 e
  | [], _ => fun e he => absurd he List.not_mem_nil
  | a :: l, h => dJ (kS a h.1) (kG l h.2)
end
end Go.Proofs.YtpkcgdikbjaoaaaDoor
namespace Go.Proofs.YtpkcgdikbjaoaaaDoor
set_option linter.unusedSimpArgs false
set_option linter.unusedVariables false
open Go.RowKit
def nV (e : As) : Prop := ∀ b : Bool, AFn Tryd.prog 15
  [.agg (match e with | .mk k (.mk ck ce cks) (.mk ek en ex eks) (.mk vk vn vx vks) f n ks => [inA (k : Int), inA (ck : Int), .sl (b4 ce) ce.length (ofB b), .sl (eG cks) cks.length (ofB b), inA (ek : Int), inA en, bs ex, .sl (b4 eks) eks.length (ofB b), inA (vk : Int), inA vn, bs vx, .sl (b4 vks) vks.length (ofB b), bs f, inA n, .sl (gK ks) ks.length (ofB b)]),
   .agg (match e with | .mk k (.mk ck ce cks) (.mk ek en ex eks) (.mk vk vn vx vks) f n ks => [inA (k : Int), inA (ck : Int), .sl (b4 ce) ce.length (ofB b), .sl (eG cks) cks.length (ofB b), inA (ek : Int), inA en, bs ex, .sl (b4 eks) eks.length (ofB b), inA (vk : Int), inA vn, bs vx, .sl (b4 vks) vks.length (ofB b), bs f, inA n, .sl (gK ks) ks.length (ofB b)])] [] (.c (.bool true)) []
def bb : Nat → List Nat
  | 0 => [0, 1]
  | 1 => [2, 3]
  | 2 => []
  | 3 => [2, 3]
  | 4 => [2, 3, 5]
  | 5 => [2, 3, 5]
  | 6 => [2, 3, 5]
  | 7 => [2, 3, 5, 6]
  | 8 => []
  | 9 => []
  | _ => []
set_option maxRecDepth 100000 in
set_option maxHeartbeats 8000000 in
theorem qR (kd : Nat) (c : Co) (e v : Ex) (f : Wd) (n : Int) (l : List As) (hc : eD c) (he : dZ e) (hv : dZ v) (hl : l.length ≤ Lim) (h : ∀ a ∈ l, nV a) : nV (.mk kd c e v f n l) := fun b => by
  have h1 := kS c hc b b b b
  have h2 := gL e he b b
  have h3 := gL v hv b b
  obtain ⟨ck, ce, cks⟩ := c
  obtain ⟨ek, en, ex, eks⟩ := e
  obtain ⟨vk, vn, vx, vks⟩ := v
  unfold Lim at hl
  simp only at h1 h2 h3 ⊢
  clear hc he hv
  refine aM [] Tryd.func15 rfl Tryd.ntmps15 (Nat.le_of_ble_eq_true rfl) (Nat.le_of_ble_eq_true rfl) fun w0 G0 B0 Pr hB0 => ?_
  simp only [aS, aJ, List.cons_append, List.nil_append]
  repeat' (first | (with_reducible refine hY _ ?_; clear hY Y) | ((with_reducible first | refine aD rfl (aN fun K' hK' => ab ?_) | refine hK' _ (ac fun Y hY => ab ?_) | refine bV rfl (ac fun Y hY => ab ?_) | refine ac fun Y hY => ab ?_ | refine aN fun K' hK' => ab ?_ | refine ae tk0 bb (ac fun Y hY => ab ?_) | refine ab ?_); (try clear hK' K'); (try dsimp only [aop]); try simp only [go_sem, ↓reduceIte, Nat.reduceEqDiff, Nat.reduceLT, Nat.reduceLeDiff, Nat.reduceAdd, Nat.reduceSub, Nat.reduceMul, Nat.reduceBEq, Nat.reduceBNe, Nat.reducePow, Int.reduceToNat, Int.reduceLE, Int.reduceLT, Int.reduceMul, Int.reduceEq, Int.reducePow, Int.reduceAdd, Int.reduceSub, Int.reduceNeg, reduceCtorEq, bb, Tryd.results15, beq_self_eq_true]) | (with_reducible first | refine aj ?_ | refine bl ?_ | refine ar ?_ | refine au ?_ | refine aT fun K hK => ?_ | refine aC ?_ | refine ax ?_ | refine aP ?_ | refine bZ ?_) | (with_reducible refine hK _ ?_; clear hK K) | ((with_reducible first | refine bh ?_ ?_ | refine al ?_ ?_); (· decide)) | (with_reducible refine aa (h1) ?_) | (with_reducible refine aa (h2) ?_) | (with_reducible refine aa (h3) ?_) | (with_reducible refine bE (cm _) ?_))
  refine b7 (α := Nat) (fun k => [(2, .loc 10002 0), (3, .loc 10003 0), (5, .c (.int .i64 (k : Int))),
      (10002, .bc [inA (kd : Int), inA (ck : Int), .sl (b4 ce) ce.length (ofB b), .sl (eG cks) cks.length (ofB b), inA (ek : Int), inA en, bs ex, .sl (b4 eks) eks.length (ofB b), inA (vk : Int), inA vn, bs vx, .sl (b4 vks) vks.length (ofB b), bs f, inA n, .sl (gK l) l.length (ofB b)] 46),
      (10003, .bc [inA (kd : Int), inA (ck : Int), .sl (b4 ce) ce.length (ofB b), .sl (eG cks) cks.length (ofB b), inA (ek : Int), inA en, bs ex, .sl (b4 eks) eks.length (ofB b), inA (vk : Int), inA vn, bs vx, .sl (b4 vks) vks.length (ofB b), bs f, inA n, .sl (gK l) l.length (ofB b)] 46)])
    (fun k => k ≤ l.length) (fun k => l.length - k) 0 [2, 3, 5] ?_ (Nat.zero_le _) ?_
  · simp only [go_sem, ↓reduceIte, Nat.reduceEqDiff, Nat.reduceLT, Nat.reduceLeDiff, Nat.reduceAdd, Nat.reduceSub, Nat.reduceMul, Nat.reduceBEq, Nat.reduceBNe, Nat.reducePow, Int.reduceToNat, Int.reduceLE, Int.reduceLT, Int.reduceMul, Int.reduceEq, Int.reducePow, Int.reduceAdd, Int.reduceSub, Int.reduceNeg, reduceCtorEq] <;> rfl
  intro k hk ih
  by_cases hlt : k < l.length
  · have hlt' : ((k : Int) < (l.length : Int)) = True := eq_true (by omega)
    have hkw : IntKind.i64.wrap ((k : Int) + 1) = ((k + 1 : Nat) : Int) := by rw [bX (by omega) (by omega)]; rfl
    have hg0 := sj hlt
    have hfl := lA l
    have h4 := h l[k] (List.getElem_mem hlt) true
    generalize l[k] = t at *
    obtain ⟨tk, ⟨tck, tce, tcks⟩, ⟨tek, ten, tex, teks⟩, ⟨tvk, tvn, tvx, tvks⟩, tf, tn, tks⟩ := t
    simp only [asA, coA, exA, List.cons_append, List.nil_append] at hg0
    simp only [ofB] at h4
    repeat' (first | (with_reducible refine hY _ ?_; clear hY Y) | ((with_reducible first | refine aD rfl (aN fun K' hK' => ab ?_) | refine hK' _ (ac fun Y hY => ab ?_) | refine ac fun Y hY => ab ?_ | refine ae tk0 bb (ac fun Y hY => ab ?_) | refine ab ?_ | refine dg rfl (dp fun K' hK' => ab ?_) | refine hK' _ _ (ac fun Y hY => ab ?_)); (try clear hK' K'); (try dsimp only [aop]); try simp only [go_sem, ↓reduceIte, Nat.reduceEqDiff, Nat.reduceLT, Nat.reduceLeDiff, Nat.reduceAdd, Nat.reduceSub, Nat.reduceMul, Nat.reduceBEq, Nat.reduceBNe, Nat.reducePow, Int.reduceToNat, Int.reduceLE, Int.reduceLT, Int.reduceMul, Int.reduceEq, Int.reducePow, Int.reduceAdd, Int.reduceSub, Int.reduceNeg, reduceCtorEq, bb, Tryd.results15, hlt', hfl, hg0, hkw, beq_self_eq_true]) | (with_reducible first | refine aj ?_ | refine ar ?_ | refine au ?_ | refine aT fun K hK => ?_ | refine aK ?_ | refine aC ?_ | refine a8 ?_ | refine ax ?_ | refine aP ?_ | refine cn ?_ | refine gT fun K hK => ?_) | (with_reducible refine hK _ ?_; clear hK K) | (with_reducible refine hK _ _ ?_ ?_; (· kernel_rfl); clear hK K) | ((with_reducible refine al ?_ ?_); (· decide)) | (with_reducible refine cj tk0 bb ?_ ?_; (· kernel_rfl)) | (with_reducible refine bT ?_ ?_; (· (try and_intros) <;> first | omega | assumption | (simp only [List.length_append, List.length_map, List.length_cons, List.length_nil] <;> omega))) | (with_reducible refine aa (h4) ?_))
    refine bI [2, 3, 5] (by simp only [go_sem, ↓reduceIte, Nat.reduceEqDiff, Nat.reduceLT, Nat.reduceLeDiff, Nat.reduceAdd, Nat.reduceSub, Nat.reduceMul, Nat.reduceBEq, Nat.reduceBNe, Nat.reducePow, Int.reduceToNat, Int.reduceLE, Int.reduceLT, Int.reduceMul, Int.reduceEq, Int.reducePow, Int.reduceAdd, Int.reduceSub, Int.reduceNeg, reduceCtorEq]; exact rfl) ?_
    exact ih (k + 1) (by omega) (by omega)
  · have hlt' : ((k : Int) < (l.length : Int)) = False := eq_false (by omega)
    repeat' (first | (with_reducible refine hY _ ?_; clear hY Y) | ((with_reducible first | refine aD rfl (aN fun K' hK' => ab ?_) | refine hK' _ (ac fun Y hY => ab ?_) | refine ac fun Y hY => ab ?_ | refine ae tk0 bb (ac fun Y hY => ab ?_) | refine ab ?_ | refine av ?_); (try clear hK' K'); (try dsimp only [aop]); try simp only [go_sem, ↓reduceIte, Nat.reduceEqDiff, Nat.reduceLT, Nat.reduceLeDiff, Nat.reduceAdd, Nat.reduceSub, Nat.reduceMul, Nat.reduceBEq, Nat.reduceBNe, Nat.reducePow, Int.reduceToNat, Int.reduceLE, Int.reduceLT, Int.reduceMul, Int.reduceEq, Int.reducePow, Int.reduceAdd, Int.reduceSub, Int.reduceNeg, reduceCtorEq, bb, Tryd.results15, hlt']) | (with_reducible first | refine aj ?_ | refine ar ?_ | refine au ?_ | refine aT fun K hK => ?_ | refine aC ?_ | refine b3 ?_ | refine bG ?_ | refine aF ?_ | refine bH ?_) | (with_reducible refine hK _ ?_; clear hK K) | ((with_reducible refine al ?_ ?_); (· decide)))
mutual
theorem iJ : ∀ e, fI e → nV e
  | .mk k c e v f n ks, h => qR k c e v f n ks h.1 h.2.1 h.2.2.1 h.2.2.2.1 (kz ks h.2.2.2.2)
theorem kz : ∀ l, pq l → ∀ e ∈ l, nV e
  | [], _ => fun e he => absurd he List.not_mem_nil
  | a :: l, h => dJ (iJ a h.1) (kz l h.2)
end
def gm (l : List St) : Prop := AFn Tryd.prog 16 [.sl (dz l) l.length .none, .sl (dz l) l.length .none] [] (.c (.bool true)) []
def sm : St → Prop
  | .mk _ _ _ _ _ _ _ _ _ _ _ b l => gm b ∧ gm l
def bo : Nat → List Nat
  | 0 => [0, 1]
  | 1 => [0, 1]
  | 2 => []
  | 3 => [0, 1]
  | 4 => [0, 1, 5]
  | 5 => [0, 1, 5]
  | 6 => [0, 1, 5]
  | 7 => [0, 1, 5, 6]
  | 8 => [0, 1, 5, 6, 7]
  | 9 => []
  | 10 => [0, 1, 5, 6, 7]
  | 11 => []
  | 12 => [0, 1, 5, 6, 7]
  | 13 => []
  | 14 => []
  | _ => []
set_option maxRecDepth 100000 in
set_option maxHeartbeats 16000000 in
theorem kZ (l : List St) (hl : l.length ≤ Lim) (h : ∀ s ∈ l, gi s ∧ sm s) : gm l := by
  unfold gm
  unfold Lim at hl
  refine aM [] Tryd.func16 rfl Tryd.ntmps16 (Nat.le_of_ble_eq_true rfl) (Nat.le_of_ble_eq_true rfl) fun w0 G0 B0 Pr hB0 => ?_
  simp only [aS, aJ, List.cons_append, List.nil_append]
  repeat' (first | (with_reducible refine hY _ ?_; clear hY Y) | ((with_reducible first | refine aD rfl (aN fun K' hK' => ab ?_) | refine hK' _ (ac fun Y hY => ab ?_) | refine ac fun Y hY => ab ?_ | refine ae tk0 bo (ac fun Y hY => ab ?_)); (try clear hK' K'); (try dsimp only [aop]); try simp only [go_sem, ↓reduceIte, Nat.reduceEqDiff, Nat.reduceLT, Nat.reduceLeDiff, Nat.reduceAdd, Nat.reduceSub, Nat.reduceMul, Nat.reduceBEq, Nat.reduceBNe, Nat.reducePow, Int.reduceToNat, Int.reduceLE, Int.reduceLT, Int.reduceMul, Int.reduceEq, Int.reducePow, Int.reduceAdd, Int.reduceSub, Int.reduceNeg, reduceCtorEq, bo, Tryd.results16]) | (with_reducible first | refine aj ?_ | refine ar ?_ | refine au ?_ | refine aT fun K hK => ?_ | refine aC ?_ | refine ax ?_ | refine aP ?_ | refine bZ ?_) | (with_reducible refine hK _ ?_; clear hK K) | ((with_reducible refine al ?_ ?_); (· decide)))
  refine b7 (α := Nat) (fun k => [(0, .sl (dz l) l.length .none), (1, .sl (dz l) l.length .none), (5, .c (.int .i64 (k : Int)))])
    (fun k => k ≤ l.length) (fun k => l.length - k) 0 [0, 1, 5] ?_ (Nat.zero_le _) ?_
  · simp only [go_sem, ↓reduceIte, Nat.reduceEqDiff, Nat.reduceLT, Nat.reduceLeDiff, Nat.reduceAdd, Nat.reduceSub, Nat.reduceMul, Nat.reduceBEq, Nat.reduceBNe, Nat.reducePow, Int.reduceToNat, Int.reduceLE, Int.reduceLT, Int.reduceMul, Int.reduceEq, Int.reducePow, Int.reduceAdd, Int.reduceSub, Int.reduceNeg, reduceCtorEq] <;> rfl
  intro k hk ih
  by_cases hlt : k < l.length
  · have hlt' : ((k : Int) < (l.length : Int)) = True := eq_true (by omega)
    have hkw : IntKind.i64.wrap ((k : Int) + 1) = ((k + 1 : Nat) : Int) := by rw [bX (by omega) (by omega)]; rfl
    have hg0 := rq hlt
    have hfl := jA l
    have h4 := h l[k] (List.getElem_mem hlt)
    generalize l[k] = t at *
    obtain ⟨sk, sx, sf, sy, e, v, c, a, rs, gs, fs, b, els⟩ := t
    obtain ⟨⟨f1, f2, f3, f4, f5, f6, f7, f8, f9⟩, hb1, hb2⟩ := h4
    have h1 := gL e f1 false false
    have h2 := gL v f2 false false
    have h3 := kS c f3 false false false false
    have h5 := iJ a f4 false
    have h6 := jJ rs f5 false false
    have h7 := jJ gs f6 false false
    have h8 := fJ fs false false f7
    obtain ⟨ek, en, ex, eks⟩ := e
    obtain ⟨vk, vn, vx, vks⟩ := v
    obtain ⟨ck, ce, cks⟩ := c
    obtain ⟨ak, ⟨ack, ace, acks⟩, ⟨aek, aen, aex, aeks⟩, ⟨avk, avn, avx, avks⟩, af, an, aks⟩ := a
    unfold gm at hb1 hb2
    simp only [stW, asA, coA, exA, List.cons_append, List.nil_append, List.map_cons, List.map_nil, wkA] at hg0
    simp only [ofB] at h1 h2 h3 h5 h6 h7 h8
    clear f1 f2 f3 f4 f5 f6 f7 f8 f9 h
    repeat' (first | (with_reducible refine hY _ ?_; clear hY Y) | ((with_reducible first | refine aD rfl (aN fun K' hK' => ab ?_) | refine hK' _ (ac fun Y hY => ab ?_) | refine bV rfl (ac fun Y hY => ab ?_) | refine ac fun Y hY => ab ?_ | refine aN fun K' hK' => ab ?_ | refine ae tk0 bo (ac fun Y hY => ab ?_) | refine ab ?_); (try clear hK' K'); (try dsimp only [aop]); try simp only [go_sem, ↓reduceIte, Nat.reduceEqDiff, Nat.reduceLT, Nat.reduceLeDiff, Nat.reduceAdd, Nat.reduceSub, Nat.reduceMul, Nat.reduceBEq, Nat.reduceBNe, Nat.reducePow, Int.reduceToNat, Int.reduceLE, Int.reduceLT, Int.reduceMul, Int.reduceEq, Int.reducePow, Int.reduceAdd, Int.reduceSub, Int.reduceNeg, reduceCtorEq, bo, Tryd.results16, hlt', hfl, hg0, hkw, beq_self_eq_true]) | (with_reducible first | refine aj ?_ | refine bl ?_ | refine ar ?_ | refine au ?_ | refine aT fun K hK => ?_ | refine aK ?_ | refine aC ?_ | refine a8 ?_ | refine ax ?_ | refine aP ?_) | (with_reducible refine hK _ ?_; clear hK K) | ((with_reducible first | refine bh ?_ ?_ | refine al ?_ ?_); (· decide)) | (with_reducible refine bT ?_ ?_; (· (try and_intros) <;> first | omega | assumption | (simp only [List.length_append, List.length_map, List.length_cons, List.length_nil] <;> omega))) | (with_reducible refine aa (h1) ?_) | (with_reducible refine aa (h2) ?_) | (with_reducible refine aa (h3) ?_) | (with_reducible refine aa (h5) ?_) | (with_reducible refine aa (h6) ?_) | (with_reducible refine aa (h7) ?_) | (with_reducible refine aa (h8) ?_) | (with_reducible refine aa (hb1) ?_) | (with_reducible refine aa (hb2) ?_) | (with_reducible refine bE (cm _) ?_))
    refine bI [0, 1, 5] (by simp only [go_sem, ↓reduceIte, Nat.reduceEqDiff, Nat.reduceLT, Nat.reduceLeDiff, Nat.reduceAdd, Nat.reduceSub, Nat.reduceMul, Nat.reduceBEq, Nat.reduceBNe, Nat.reducePow, Int.reduceToNat, Int.reduceLE, Int.reduceLT, Int.reduceMul, Int.reduceEq, Int.reducePow, Int.reduceAdd, Int.reduceSub, Int.reduceNeg, reduceCtorEq]; exact rfl) ?_
    exact ih (k + 1) (by omega) (by omega)
  · have hlt' : ((k : Int) < (l.length : Int)) = False := eq_false (by omega)
    repeat' (first | (with_reducible refine hY _ ?_; clear hY Y) | ((with_reducible first | refine aD rfl (aN fun K' hK' => ab ?_) | refine hK' _ (ac fun Y hY => ab ?_) | refine ac fun Y hY => ab ?_ | refine ae tk0 bo (ac fun Y hY => ab ?_) | refine ab ?_ | refine av ?_); (try clear hK' K'); (try dsimp only [aop]); try simp only [go_sem, ↓reduceIte, Nat.reduceEqDiff, Nat.reduceLT, Nat.reduceLeDiff, Nat.reduceAdd, Nat.reduceSub, Nat.reduceMul, Nat.reduceBEq, Nat.reduceBNe, Nat.reducePow, Int.reduceToNat, Int.reduceLE, Int.reduceLT, Int.reduceMul, Int.reduceEq, Int.reducePow, Int.reduceAdd, Int.reduceSub, Int.reduceNeg, reduceCtorEq, bo, Tryd.results16, hlt']) | (with_reducible first | refine aj ?_ | refine ar ?_ | refine au ?_ | refine aT fun K hK => ?_ | refine aC ?_ | refine b3 ?_ | refine bG ?_ | refine aF ?_ | refine bH ?_) | (with_reducible refine hK _ ?_; clear hK K) | ((with_reducible refine al ?_ ?_); (· decide)))
mutual
theorem sK : ∀ s, gi s → sm s
  | .mk k x f y e v c a rs gs fs b l, h => ⟨kZ b h.2.2.2.2.2.2.2.1.1 (g7 b h.2.2.2.2.2.2.2.1.2), kZ l h.2.2.2.2.2.2.2.2.1 (g7 l h.2.2.2.2.2.2.2.2.2)⟩
theorem g7 : ∀ l, fy l → ∀ s ∈ l, gi s ∧ sm s
  | [], _ => fun e he => absurd he List.not_mem_nil
  | a :: l, h => dJ ⟨h.1, sK a h.1⟩ (g7 l h.2)
end
theorem qT (l : List St) (h : l.length ≤ Lim ∧ fy l) : gm l := kZ l h.1 (g7 l h.2)
def bv : Nat → List Nat
  | 0 => [0, 1]
  | 1 => [2, 3]
  | 2 => []
  | 3 => [2, 3]
  | 4 => [2, 3, 5]
  | 5 => [2, 3, 5]
  | 6 => [2, 3, 5]
  | 7 => [2, 3, 5, 6]
  | 8 => [2, 3, 5, 6, 7]
  | 9 => []
  | 10 => []
  | _ => []
set_option maxRecDepth 100000 in
set_option maxHeartbeats 16000000 in
theorem lG (l : List Pc) (b : Bool) (hl : l.length ≤ Lim) (h : ∀ p ∈ l, oY p) : AFn Tryd.prog 7 [.agg [.sl (d9 l) l.length (ofB b)], .agg [.sl (d9 l) l.length (ofB b)]] [] (.c (.bool true)) [] := by
  unfold Lim at hl
  refine aM [] Tryd.func7 rfl Tryd.ntmps7 (Nat.le_of_ble_eq_true rfl) (Nat.le_of_ble_eq_true rfl) fun w0 G0 B0 Pr hB0 => ?_
  simp only [aS, aJ, List.cons_append, List.nil_append]
  repeat' (first | (with_reducible refine hY _ ?_; clear hY Y) | ((with_reducible first | refine aD rfl (aN fun K' hK' => ab ?_) | refine hK' _ (ac fun Y hY => ab ?_) | refine ac fun Y hY => ab ?_ | refine ae tk0 bv (ac fun Y hY => ab ?_)); (try clear hK' K'); (try dsimp only [aop]); try simp only [go_sem, ↓reduceIte, Nat.reduceEqDiff, Nat.reduceLT, Nat.reduceLeDiff, Nat.reduceAdd, Nat.reduceSub, Nat.reduceMul, Nat.reduceBEq, Nat.reduceBNe, Nat.reducePow, Int.reduceToNat, Int.reduceLE, Int.reduceLT, Int.reduceMul, Int.reduceEq, Int.reducePow, Int.reduceAdd, Int.reduceSub, Int.reduceNeg, reduceCtorEq, bv, Tryd.results7]) | (with_reducible first | refine aj ?_ | refine ar ?_ | refine au ?_ | refine aT fun K hK => ?_ | refine aC ?_ | refine ax ?_ | refine aP ?_ | refine bZ ?_) | (with_reducible refine hK _ ?_; clear hK K) | ((with_reducible refine al ?_ ?_); (· decide)))
  refine b7 (α := Nat) (fun k => [(2, .loc 10002 0), (3, .loc 10003 0), (5, .c (.int .i64 (k : Int))), (10002, .bc [.sl (d9 l) l.length (ofB b)] 32), (10003, .bc [.sl (d9 l) l.length (ofB b)] 32)])
    (fun k => k ≤ l.length) (fun k => l.length - k) 0 [2, 3, 5] ?_ (Nat.zero_le _) ?_
  · simp only [go_sem, ↓reduceIte, Nat.reduceEqDiff, Nat.reduceLT, Nat.reduceLeDiff, Nat.reduceAdd, Nat.reduceSub, Nat.reduceMul, Nat.reduceBEq, Nat.reduceBNe, Nat.reducePow, Int.reduceToNat, Int.reduceLE, Int.reduceLT, Int.reduceMul, Int.reduceEq, Int.reducePow, Int.reduceAdd, Int.reduceSub, Int.reduceNeg, reduceCtorEq] <;> rfl
  intro k hk ih
  by_cases hlt : k < l.length
  · have hlt' : ((k : Int) < (l.length : Int)) = True := eq_true (by omega)
    have hkw : IntKind.i64.wrap ((k : Int) + 1) = ((k + 1 : Nat) : Int) := by rw [bX (by omega) (by omega)]; rfl
    have hg0 := rj hlt
    have hfl := iY l
    have h4 := h l[k] (List.getElem_mem hlt)
    generalize l[k] = t at *
    obtain ⟨x, ps, gs, pr, po, bd⟩ := t
    obtain ⟨f1, f2, f3, f4, f5⟩ := h4
    simp only at f1 f2 f3 f4 f5
    have h1 := fJ ps false false f1
    have h2 := fJ gs false false f2
    have h3 := iJ pr f3 true
    have h5 := iJ po f4 true
    have h6 := qT bd f5
    obtain ⟨ak, ⟨ack, ace, acks⟩, ⟨aek, aen, aex, aeks⟩, ⟨avk, avn, avx, avks⟩, af, an, aks⟩ := pr
    obtain ⟨qk, ⟨qck, qce, qcks⟩, ⟨qek, qen, qex, qeks⟩, ⟨qvk, qvn, qvx, qvks⟩, qf, qn, qks⟩ := po
    unfold gm at h6
    simp only [pcW, asA, coA, exA, List.cons_append, List.nil_append] at hg0
    simp only [ofB] at h1 h2 h3 h5
    clear f1 f2 f3 f4 f5 h
    repeat' (first | (with_reducible refine hY _ ?_; clear hY Y) | ((with_reducible first | refine aD rfl (aN fun K' hK' => ab ?_) | refine hK' _ (ac fun Y hY => ab ?_) | refine bV rfl (ac fun Y hY => ab ?_) | refine ac fun Y hY => ab ?_ | refine aN fun K' hK' => ab ?_ | refine ae tk0 bv (ac fun Y hY => ab ?_) | refine ab ?_); (try clear hK' K'); (try dsimp only [aop]); try simp only [go_sem, ↓reduceIte, Nat.reduceEqDiff, Nat.reduceLT, Nat.reduceLeDiff, Nat.reduceAdd, Nat.reduceSub, Nat.reduceMul, Nat.reduceBEq, Nat.reduceBNe, Nat.reducePow, Int.reduceToNat, Int.reduceLE, Int.reduceLT, Int.reduceMul, Int.reduceEq, Int.reducePow, Int.reduceAdd, Int.reduceSub, Int.reduceNeg, reduceCtorEq, bv, Tryd.results7, hlt', hfl, hg0, hkw, beq_self_eq_true]) | (with_reducible first | refine aj ?_ | refine bl ?_ | refine ar ?_ | refine au ?_ | refine aT fun K hK => ?_ | refine aK ?_ | refine aC ?_ | refine a8 ?_ | refine ax ?_ | refine aP ?_) | (with_reducible refine hK _ ?_; clear hK K) | ((with_reducible first | refine bh ?_ ?_ | refine al ?_ ?_); (· decide)) | (with_reducible refine bT ?_ ?_; (· (try and_intros) <;> first | omega | assumption | (simp only [List.length_append, List.length_map, List.length_cons, List.length_nil] <;> omega))) | (with_reducible refine aa (h1) ?_) | (with_reducible refine aa (h2) ?_) | (with_reducible refine aa (h3) ?_) | (with_reducible refine aa (h5) ?_) | (with_reducible refine aa (h6) ?_) | (with_reducible refine bE (cm _) ?_))
    refine bI [2, 3, 5] (by simp only [go_sem, ↓reduceIte, Nat.reduceEqDiff, Nat.reduceLT, Nat.reduceLeDiff, Nat.reduceAdd, Nat.reduceSub, Nat.reduceMul, Nat.reduceBEq, Nat.reduceBNe, Nat.reducePow, Int.reduceToNat, Int.reduceLE, Int.reduceLT, Int.reduceMul, Int.reduceEq, Int.reducePow, Int.reduceAdd, Int.reduceSub, Int.reduceNeg, reduceCtorEq]; exact rfl) ?_
    exact ih (k + 1) (by omega) (by omega)
  · have hlt' : ((k : Int) < (l.length : Int)) = False := eq_false (by omega)
    repeat' (first | (with_reducible refine hY _ ?_; clear hY Y) | ((with_reducible first | refine aD rfl (aN fun K' hK' => ab ?_) | refine hK' _ (ac fun Y hY => ab ?_) | refine ac fun Y hY => ab ?_ | refine ae tk0 bv (ac fun Y hY => ab ?_) | refine ab ?_ | refine av ?_); (try clear hK' K'); (try dsimp only [aop]); try simp only [go_sem, ↓reduceIte, Nat.reduceEqDiff, Nat.reduceLT, Nat.reduceLeDiff, Nat.reduceAdd, Nat.reduceSub, Nat.reduceMul, Nat.reduceBEq, Nat.reduceBNe, Nat.reducePow, Int.reduceToNat, Int.reduceLE, Int.reduceLT, Int.reduceMul, Int.reduceEq, Int.reducePow, Int.reduceAdd, Int.reduceSub, Int.reduceNeg, reduceCtorEq, bv, Tryd.results7, hlt']) | (with_reducible first | refine aj ?_ | refine ar ?_ | refine au ?_ | refine aT fun K hK => ?_ | refine aC ?_ | refine b3 ?_ | refine bG ?_ | refine aF ?_ | refine bH ?_) | (with_reducible refine hK _ ?_; clear hK K) | ((with_reducible refine al ?_ ?_); (· decide)))
end Go.Proofs.YtpkcgdikbjaoaaaDoor
namespace Go.Proofs.YtpkcgdikbjaoaaaDoor
set_option linter.unusedSimpArgs false
set_option linter.unusedVariables false
open Go.RowKit
theorem mh : ∀ {l : List Ex}, (∀ e ∈ l, dZ e) → fO l
  | [], _ => trivial
  | a :: l, h => ⟨h a (by simp), mh fun e he => h e (by simp [he])⟩
theorem mq : ∀ {l : List St}, (∀ e ∈ l, gi e) → fy l
  | [], _ => trivial
  | a :: l, h => ⟨h a (by simp), mq fun e he => h e (by simp [he])⟩
theorem l0 : 0 ≤ Lim := Nat.zero_le _
theorem l1 : 1 ≤ Lim := by unfold Lim; omega
theorem l2 : 2 ≤ Lim := by unfold Lim; omega
theorem cz : dZ exZ := ⟨l0, trivial⟩
theorem eE : eD coZ := ⟨⟨l0, trivial⟩, l0, trivial⟩
theorem fq : fI asZ := ⟨eE, cz, cz, l0, trivial⟩
theorem cQ : ([] : List Ex).length ≤ Lim ∧ fO [] := ⟨l0, trivial⟩
theorem du : ([] : List St).length ≤ Lim ∧ fy [] := ⟨l0, trivial⟩
theorem oR : gi stZ := ⟨cz, cz, eE, fq, cQ, cQ, l0, du, du⟩
theorem g8 {α : Type} {P : α → Prop} {w : Wd} {mk : α → α → α} {g : PS → α × PS} (hm : ∀ a b, P a → P b → P (mk a b)) (hg : ∀ s, P (g s).1) : ∀ (f : Nat) (out : α) (s : PS), P out → P (dE w mk g f out s).1
  | 0, out, s, h => h
  | f + 1, out, s, h => by
    unfold dE; split
    · exact g8 hm hg f _ _ (hm _ _ h (hg _))
    · exact h
theorem k9 {α : Type} {P : α → Prop} {w : Wd} {g : PS → α × PS} (hg : ∀ s, P (g s).1) : ∀ (f : Nat) (out : List α) (s : PS), (∀ a ∈ out, P a) → (eq w g f out s).1.length ≤ out.length + f ∧ ∀ a ∈ (eq w g f out s).1, P a
  | 0, out, s, h => ⟨Nat.le_refl _, h⟩
  | f + 1, out, s, h => by
    unfold eq; split
    · have := k9 (w := w) hg f (out ++ [(g s.drop).1]) (g s.drop).2 (fun a ha => by
        rcases List.mem_append.1 ha with ha | ha
        · exact h a ha
        · rw [List.mem_singleton.1 ha]; exact hg _)
      rw [List.length_append, List.length_singleton] at this
      exact ⟨by omega, this.2⟩
    · exact ⟨Nat.le_add_right _ _, h⟩
theorem kj (x : Wd) (w : Wd) (g : PS → Wd × PS) (s : PS) : (eq w g FU [x] s).1.length ≤ Lim := by
  have := (k9 (P := fun _ => True) (w := w) (g := g) (fun _ => trivial) FU [x] s (fun _ _ => trivial)).1
  rw [List.length_singleton] at this
  unfold Lim
  simp only [FU] at this ⊢
  omega
theorem kF (s : PS) (u : Wd) : (s.names u).1.length ≤ Lim := by
  unfold PS.names; split
  · exact l0
  · exact kj _ _ _ _
theorem jq {g : PS → Ex × PS} (hg : ∀ s, dZ (g s).1) : ∀ (f : Nat) (e : Ex) (s : PS), dZ e → dZ (eo g f e s).1
  | 0, e, s, h => h
  | f + 1, e, s, h => by
    unfold eo; split
    · exact jq hg f _ _ ⟨l2, h, hg _, trivial⟩
    · exact h
theorem kl {g : PS → Ex × PS} (hg : ∀ s, dZ (g s).1) (s : PS) : dZ (gk g s).1 := jq hg FU _ _ (hg s)
theorem lU {g : PS → Ex × PS} (hg : ∀ s, dZ (g s).1) (z : Int) (s : PS) : dZ (cY g z s).1 := by
  unfold cY
  simp only
  split
  · exact ⟨l1, hg _, trivial⟩
  · exact ⟨l0, trivial⟩
theorem oN {g : PS → Ex × PS} (hg : ∀ s, dZ (g s).1) (s : PS) : dZ (gQ g s).1 := by
  unfold gQ
  simp only
  split
  · exact cz
  split
  · exact lU hg _ _
  split
  · exact kl hg _
  · exact ⟨l0, trivial⟩
theorem jZ : ∀ (f : Nat) (s : PS), dZ (j7 f s).1
  | 0, s => cz
  | f + 1, s => oN (jZ f) s
theorem cW (s : PS) : dZ (cb s).1 := kl (jZ FU) s
theorem kf (s : PS) (u : Wd) : (s.exprs u).1.length ≤ Lim ∧ fO (s.exprs u).1 := by
  unfold PS.exprs; split
  · exact cQ
  · have := k9 (P := dZ) (w := [44]) cW FU [(cb s).1] (cb s).2 (fun a ha => by rw [List.mem_singleton.1 ha]; exact cW s)
    refine ⟨?_, mh this.2⟩
    have h1 := this.1
    rw [List.length_singleton] at h1
    unfold Lim
    simp only [FU] at h1 ⊢
    omega
theorem nW (k : Nat) (a b : Co) (h1 : eD a) (h2 : eD b) : eD (.mk k [] [a, b]) := ⟨cQ, l2, h1, h2, trivial⟩
theorem l4 {g : PS → Co × PS} (hg : ∀ s, eD (g s).1) (s : PS) : eD (i4 g s).1 := g8 (P := eD) (nW 7) hg FU _ _ (hg s)
theorem ig {g : PS → Co × PS} (hg : ∀ s, eD (g s).1) (s : PS) : eD (gj g s).1 := g8 (P := eD) (nW 8) (l4 hg) FU _ _ (l4 hg s)
theorem pi {g : PS → Co × PS} (hg : ∀ s, eD (g s).1) (s : PS) : eD (kU g s).1 := by
  unfold kU
  simp only
  split
  · exact ⟨cQ, l1, hg _, trivial⟩
  split
  · exact ig hg _
  split
  · exact eE
  split
  · exact ⟨cQ, l0, trivial⟩
  · exact ⟨⟨l2, cW _, cW _, trivial⟩, l0, trivial⟩
theorem jg : ∀ (f : Nat) (s : PS), eD (mV f s).1
  | 0, s => eE
  | f + 1, s => pi (jg f) s
theorem gS (s : PS) : eD (eF s).1 := ig (jg FU) s
theorem lW (s : PS) : eD (dS s).1 := ig (jg FU) _
theorem pJ (k : Nat) (a b : As) (h1 : fI a) (h2 : fI b) : fI (.mk k coZ exZ exZ [] 0 [a, b]) := ⟨eE, cz, cz, l2, h1, h2, trivial⟩
theorem kh {g : PS → As × PS} (hg : ∀ s, fI (g s).1) (s : PS) : fI (fK g s).1 := g8 (P := fI) (pJ 4) hg FU _ _ (hg s)
theorem pW (s : PS) (b : Bool) : fI (s.cell b).1 := by
  unfold PS.cell PS.place
  simp only
  split
  · exact ⟨eE, cW _, cW _, l0, trivial⟩
  · exact ⟨eE, cW _, cz, l0, trivial⟩
theorem n9 {g : PS → As × PS} (hg : ∀ s, fI (g s).1) (s : PS) : fI (g6 g s).1 := by
  unfold g6
  simp only
  split
  · exact fq
  split
  · exact ⟨lW _, cz, cz, l0, trivial⟩
  split
  · exact pW _ _
  split
  · exact ⟨gS _, cz, cz, l2, hg _, hg _, trivial⟩
  split
  · exact hg _
  · exact fq
theorem kk : ∀ (f : Nat) (s : PS), fI (j9 f s).1
  | 0, s => fq
  | f + 1, s => n9 (kh (kk f)) s
theorem i9 (s : PS) : fI (fA s).1 := kh (kk FU) s
theorem lH (s : PS) : gi s.call.1 := ⟨cz, cz, eE, fq, kf _ _, kf _ _, l0, du, du⟩
theorem oF (x : Wd) : ∀ t : St, gi t → gi (t.named x)
  | .mk k y f z e v c a rs gs fs b l, h => h
theorem hC (s : PS) : dZ s.place.1 := cW s
theorem qA (s : PS) : gi s.set.1 := by
  unfold PS.set
  simp only
  split
  · exact ⟨hC _, cz, eE, fq, cQ, cQ, l0, du, du⟩
  split
  · exact ⟨cz, cz, eE, fq, cQ, cQ, kj _ _ _ _, du, du⟩
  split
  · exact oF _ _ (lH _)
  · exact ⟨cW _, cz, eE, fq, cQ, cQ, l0, du, du⟩
theorem jl {g : PS → St × PS} (hg : ∀ s, gi (g s).1) : ∀ (f : Nat) (out : List St) (s : PS), (∀ a ∈ out, gi a) → (dy g f out s).1.length ≤ out.length + f ∧ ∀ a ∈ (dy g f out s).1, gi a
  | 0, out, s, h => ⟨Nat.le_refl _, h⟩
  | f + 1, out, s, h => by
    unfold dy; split
    · have := jl hg f (out ++ [(g s).1]) (g s).2 (fun a ha => by
        rcases List.mem_append.1 ha with ha | ha
        · exact h a ha
        · rw [List.mem_singleton.1 ha]; exact hg _)
      rw [List.length_append, List.length_singleton] at this
      exact ⟨by omega, this.2⟩
    · exact ⟨Nat.le_add_right _ _, h⟩
theorem jH {g : PS → St × PS} (hg : ∀ s, gi (g s).1) (s : PS) : (eN g s).1.length ≤ Lim ∧ fy (eN g s).1 := by
  have := jl hg FU [] (s.open' [123]) (fun a ha => absurd ha List.not_mem_nil)
  refine ⟨?_, mq this.2⟩
  have h1 := this.1
  rw [List.length_nil] at h1
  refine Nat.le_trans h1 ?_
  simp only [FU, Lim]
  omega
theorem oC {g : PS → List St × PS} (hg : ∀ s, (g s).1.length ≤ Lim ∧ fy (g s).1) (s : PS) : gi (fC g s).1 := by
  unfold fC
  simp only
  split
  · exact oR
  split
  · exact ⟨hC _, cW _, eE, fq, cQ, cQ, l0, du, du⟩
  split
  · exact ⟨hC _, cz, eE, fq, cQ, cQ, l0, du, du⟩
  split
  · exact ⟨cz, cz, gS _, fq, cQ, cQ, l0, du, du⟩
  split
  · exact lH _
  split
  · exact qA _
  split
  · exact ⟨cz, cz, gS _, fq, cQ, cQ, l0, hg _, hg _⟩
  split
  · exact ⟨cz, cz, gS _, i9 _, cQ, cQ, l0, hg _, du⟩
  · exact oR
theorem j4 : ∀ (f : Nat) (s : PS), gi (jC f s).1
  | 0, s => oR
  | f + 1, s => oC (jH (j4 f)) s
theorem ke (s : PS) : (eX s).1.length ≤ Lim ∧ fy (eX s).1 := jH (j4 FU) s
theorem oW (s : PS) : oY s.proc.1 := by
  unfold PS.proc
  exact ⟨kF _ _, kF _ _, i9 _, i9 _, (ke _).1, (ke _).2⟩
theorem je : ∀ (f : Nat) (out : List Pc) (s : PS), (∀ a ∈ out, oY a) → (dW f out s).1.length ≤ out.length + f ∧ ∀ a ∈ (dW f out s).1, oY a
  | 0, out, s, h => ⟨Nat.le_refl _, h⟩
  | f + 1, out, s, h => by
    unfold dW; split
    · have := je f (out ++ [s.proc.1]) s.proc.2 (fun a ha => by
        rcases List.mem_append.1 ha with ha | ha
        · exact h a ha
        · rw [List.mem_singleton.1 ha]; exact oW _)
      rw [List.length_append, List.length_singleton] at this
      exact ⟨by omega, this.2⟩
    · exact ⟨Nat.le_add_right _ _, h⟩
theorem oe (l : Wd) : (cH l).1.length ≤ Lim ∧ ∀ p ∈ (cH l).1, oY p := by
  have := je FU [] (dB l) (fun a ha => absurd ha List.not_mem_nil)
  refine ⟨?_, this.2⟩
  have h1 := this.1
  rw [List.length_nil] at h1
  refine Nat.le_trans h1 ?_
  simp only [FU, Lim]
  omega
end Go.Proofs.YtpkcgdikbjaoaaaDoor

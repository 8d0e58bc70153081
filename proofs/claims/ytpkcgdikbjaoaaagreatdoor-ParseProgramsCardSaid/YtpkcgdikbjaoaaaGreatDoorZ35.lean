/- The document's Same, on trees that are alike, in K: words, expressions, conditions. The document's Same, on trees that are alike, in K: assertions, statements, programs. How long the rows of a parsed program are. -/
import Derived.Test.YtpkcgdikbjaoaaaGreatDoorZ12
import Derived.Test.YtpkcgdikbjaoaaaGreatDoorZ7
import Derived.Test.YtpkcgdikbjaoaaaGreatDoorZ21
namespace Go.Proofs.YtpkcgdikbjaoaaaGreatDoor
set_option linter.unusedSimpArgs false
set_option linter.unusedVariables false
open Go.RowKit
theorem sG : ∀ l : List Ex, cW l = l.flatMap exA
  | [] => rfl
  | e :: r => by rw [cW, sG r, List.flatMap_cons]
theorem tr : ∀ l : List Co, eV l = l.flatMap coA
  | [] => rfl
  | e :: r => by rw [eV, tr r, List.flatMap_cons]
theorem sn : ∀ l : List As, gb l = l.flatMap asA
  | [] => rfl
  | e :: r => by rw [gb, sn r, List.flatMap_cons]
theorem su : ∀ l : List St, ez l = l.flatMap stW
  | [] => rfl
  | e :: r => by rw [ez, su r, List.flatMap_cons]
theorem tq : ∀ l : List Pc, fU l = l.flatMap pcW
  | [] => rfl
  | e :: r => by rw [fU, tq r, List.flatMap_cons]
theorem yM {l : List Ex} {i : Nat} (h : i < l.length) : ((cW l).drop (i * 4)).take 4 = exA l[i] := by rw [sG]; exact lA kD h
theorem yL {l : List Co} {i : Nat} (h : i < l.length) : ((eV l).drop (i * 3)).take 3 = coA l[i] := by rw [tr]; exact lA ki h
theorem yR {l : List As} {i : Nat} (h : i < l.length) : ((gb l).drop (i * 15)).take 15 = asA l[i] := by rw [sn]; exact lA jz h
theorem yc {l : List St} {i : Nat} (h : i < l.length) : ((ez l).drop (i * 35)).take 35 = stW l[i] := by rw [su]; exact lA th h
theorem wU {l : List Pc} {i : Nat} (h : i < l.length) : ((fU l).drop (i * 34)).take 34 = pcW l[i] := by rw [tq]; exact lA tc h
def ofB : Bool → Own
  | true => .full
  | false => .none
@[go_sem] theorem zE (tk : Bool) (k : Nat) (cs : List AV) (n : Nat) (b : Bool) : names tk (k + 1) (.sl cs n (ofB b)) = [] := by cases b <;> rfl
@[go_sem] theorem Ar (g : List (Nat × Nat)) (k : Nat) (cs : List AV) (n : Nat) (b : Bool) : ren g (k + 1) (.sl cs n (ofB b)) = .sl cs n (ofB b) := by cases b <;> rfl
@[go_sem] theorem zL (ex : List Nat) (σ : ba) (k : Nat) (cs : List AV) (n : Nat) (b : Bool) : gz ex σ (k + 1) (.sl cs n (ofB b)) = .sl cs n (ofB b) := by cases b <;> rfl
@[go_sem] theorem yZ (d k : Nat) (cs : List AV) (n : Nat) (b : Bool) : dK d (k + 1) (.sl cs n (ofB b)) = false := by cases b <;> rfl
@[go_sem] theorem zF (ex : List Nat) (σ : ba) (k : Nat) (cs : List AV) (n : Nat) (b : Bool) : fo ex σ (k + 1) (.sl cs n (ofB b)) = .sl cs n (ofB b) := by cases b <;> rfl
@[go_sem] theorem zu (k : Nat) (cs : List AV) (n : Nat) (b : Bool) : dY (k + 1) (.sl cs n (ofB b)) = some (.sl cs n (ofB b)) := by cases b <;> rfl
def Lim : Nat := 80000
mutual
def gF : Ex → Prop
  | .mk k n x ks => ks.length ≤ Lim ∧ i4 ks
def i4 : List Ex → Prop
  | [] => True
  | e :: r => gF e ∧ i4 r
end
mutual
def g8 : Co → Prop
  | .mk k e ks => (e.length ≤ Lim ∧ i4 e) ∧ ks.length ≤ Lim ∧ uo ks
def uo : List Co → Prop
  | [] => True
  | e :: r => g8 e ∧ uo r
end
mutual
def i8 : As → Prop
  | .mk k c e v f n ks => g8 c ∧ gF e ∧ gF v ∧ ks.length ≤ Lim ∧ un ks
def un : List As → Prop
  | [] => True
  | e :: r => i8 e ∧ un r
end
mutual
def jT : St → Prop
  | .mk k x f y e v c a rs gs fs b l => gF e ∧ gF v ∧ g8 c ∧ i8 a ∧ (rs.length ≤ Lim ∧ i4 rs) ∧ (gs.length ≤ Lim ∧ i4 gs) ∧ fs.length ≤ Lim ∧ (b.length ≤ Lim ∧ jl b) ∧ (l.length ≤ Lim ∧ jl l)
def jl : List St → Prop
  | [] => True
  | e :: r => jT e ∧ jl r
end
def vY (p : Pc) : Prop := p.params.length ≤ Lim ∧ p.ghosts.length ≤ Lim ∧ i8 p.pre ∧ i8 p.post ∧ p.body.length ≤ Lim ∧ jl p.body
def bZ : Nat → List Nat
  | 0 => [0, 1]
  | 1 => [0, 1]
  | 2 => []
  | 3 => [0, 1]
  | 4 => [0, 1, 5]
  | 5 => [0, 1, 5]
  | 6 => [0, 1, 5]
  | 7 => []
  | 8 => []
  | _ => []
set_option maxRecDepth 100000 in
set_option maxHeartbeats 4000000 in
theorem jf (l : List Wd) (o1 o2 : Bool) (hl : l.length ≤ Lim) : AFn Tryz.prog 20 [.sl (l.map bs) l.length (ofB o1), .sl (l.map bs) l.length (ofB o2)] [] (.c (.bool true)) [] := by
  unfold Lim at hl
  refine aK [] Tryz.func20 rfl Tryz.ntmps20 (Nat.le_of_ble_eq_true rfl) (Nat.le_of_ble_eq_true rfl) fun w0 G0 B0 Pr hB0 => ?_
  simp only [aQ, aI, List.cons_append, List.nil_append]
  repeat' (first | (with_reducible refine hY _ ?_; clear hY Y) | ((with_reducible first | refine av rfl (aD fun K' hK' => ab ?_) | refine hK' _ (ac fun Y hY => ab ?_) | refine ac fun Y hY => ab ?_ | refine ae tk0 bZ (ac fun Y hY => ab ?_)); (try clear hK' K'); (try dsimp only [aop]); try simp only [go_sem, ↓reduceIte, Nat.reduceEqDiff, Nat.reduceLT, Nat.reduceLeDiff, Nat.reduceAdd, Nat.reduceSub, Nat.reduceMul, Nat.reduceBEq, Nat.reduceBNe, Nat.reducePow, Int.reduceToNat, Int.reduceLE, Int.reduceLT, Int.reduceMul, Int.reduceEq, Int.reducePow, Int.reduceAdd, Int.reduceSub, Int.reduceNeg, reduceCtorEq, bZ, Tryz.results20]) | (with_reducible first | refine ai ?_ | refine al ?_ | refine am ?_ | refine aL fun K hK => ?_ | refine ar ?_ | refine aq ?_ | refine aC ?_ | refine bx ?_) | (with_reducible refine hK _ ?_; clear hK K) | ((with_reducible refine ah ?_ ?_); (· decide)))
  refine cw (α := Nat) (fun k => [(0, .sl (l.map bs) l.length (ofB o1)), (1, .sl (l.map bs) l.length (ofB o2)), (5, .c (.int .i64 (k : Int)))])
    (fun k => k ≤ l.length) (fun k => l.length - k) 0 [0, 1, 5] ?_ (Nat.zero_le _) ?_
  · simp only [go_sem, ↓reduceIte, Nat.reduceEqDiff, Nat.reduceLT, Nat.reduceLeDiff, Nat.reduceAdd, Nat.reduceSub, Nat.reduceMul, Nat.reduceBEq, Nat.reduceBNe, Nat.reducePow, Int.reduceToNat, Int.reduceLE, Int.reduceLT, Int.reduceMul, Int.reduceEq, Int.reducePow, Int.reduceAdd, Int.reduceSub, Int.reduceNeg, reduceCtorEq] <;> rfl
  intro k hk ih
  by_cases hlt : k < l.length
  · have hlt' : ((k : Int) < (l.length : Int)) = True := eq_true (by omega)
    have hkw : IntKind.i64.wrap ((k : Int) + 1) = ((k + 1 : Nat) : Int) := by rw [bO (by omega) (by omega)]; rfl
    have hg0 := lj (f := bs) hlt
    have hfl : (l.map bs).length = l.length := List.length_map ..
    generalize l[k] = t at *
    repeat' (first | (with_reducible refine hY _ ?_; clear hY Y) | ((with_reducible first | refine av rfl (aD fun K' hK' => ab ?_) | refine hK' _ (ac fun Y hY => ab ?_) | refine ac fun Y hY => ab ?_ | refine ae tk0 bZ (ac fun Y hY => ab ?_) | refine ab ?_ | refine bY rfl (bI fun K' hK' => ab ?_) | refine hK' _ _ (ac fun Y hY => ab ?_)); (try clear hK' K'); (try dsimp only [aop]); try simp only [go_sem, ↓reduceIte, Nat.reduceEqDiff, Nat.reduceLT, Nat.reduceLeDiff, Nat.reduceAdd, Nat.reduceSub, Nat.reduceMul, Nat.reduceBEq, Nat.reduceBNe, Nat.reducePow, Int.reduceToNat, Int.reduceLE, Int.reduceLT, Int.reduceMul, Int.reduceEq, Int.reducePow, Int.reduceAdd, Int.reduceSub, Int.reduceNeg, reduceCtorEq, bZ, Tryz.results20, hlt', hfl, hg0, hkw, beq_self_eq_true]) | (with_reducible first | refine ai ?_ | refine al ?_ | refine am ?_ | refine aL fun K hK => ?_ | refine ax ?_ | refine ar ?_ | refine aO ?_ | refine aq ?_ | refine aC ?_ | refine bl ?_ | refine dq fun K hK => ?_) | (with_reducible refine hK _ ?_; clear hK K) | (with_reducible refine hK _ _ ?_ ?_; (· kernel_rfl); clear hK K) | ((with_reducible refine ah ?_ ?_); (· decide)) | (with_reducible refine bm tk0 bZ ?_ ?_; (· kernel_rfl)) | (with_reducible refine bQ ?_ ?_; (· (try and_intros) <;> first | omega | assumption | (simp only [List.length_append, List.length_map, List.length_cons, List.length_nil] <;> omega))) | (with_reducible refine be (aU _) ?_))
    refine bA [0, 1, 5] (by simp only [go_sem, ↓reduceIte, Nat.reduceEqDiff, Nat.reduceLT, Nat.reduceLeDiff, Nat.reduceAdd, Nat.reduceSub, Nat.reduceMul, Nat.reduceBEq, Nat.reduceBNe, Nat.reducePow, Int.reduceToNat, Int.reduceLE, Int.reduceLT, Int.reduceMul, Int.reduceEq, Int.reducePow, Int.reduceAdd, Int.reduceSub, Int.reduceNeg, reduceCtorEq]; exact rfl) ?_
    exact ih (k + 1) (by omega) (by omega)
  · have hlt' : ((k : Int) < (l.length : Int)) = False := eq_false (by omega)
    repeat' (first | (with_reducible refine hY _ ?_; clear hY Y) | ((with_reducible first | refine av rfl (aD fun K' hK' => ab ?_) | refine hK' _ (ac fun Y hY => ab ?_) | refine ac fun Y hY => ab ?_ | refine ae tk0 bZ (ac fun Y hY => ab ?_) | refine ab ?_ | refine ap ?_); (try clear hK' K'); (try dsimp only [aop]); try simp only [go_sem, ↓reduceIte, Nat.reduceEqDiff, Nat.reduceLT, Nat.reduceLeDiff, Nat.reduceAdd, Nat.reduceSub, Nat.reduceMul, Nat.reduceBEq, Nat.reduceBNe, Nat.reducePow, Int.reduceToNat, Int.reduceLE, Int.reduceLT, Int.reduceMul, Int.reduceEq, Int.reducePow, Int.reduceAdd, Int.reduceSub, Int.reduceNeg, reduceCtorEq, bZ, Tryz.results20, hlt']) | (with_reducible first | refine ai ?_ | refine al ?_ | refine am ?_ | refine aL fun K hK => ?_ | refine ar ?_ | refine bN ?_ | refine bo ?_ | refine az ?_ | refine bq ?_) | (with_reducible refine hK _ ?_; clear hK K) | ((with_reducible refine ah ?_ ?_); (· decide)))
theorem gg {α : Type} {P : α → Prop} {a : α} {l : List α} (h : P a) (k : ∀ e ∈ l, P e) : ∀ e ∈ a :: l, P e := fun e he => by
  rcases List.mem_cons.1 he with rfl | he
  · exact h
  · exact k e he
def so (e : Ex) : Prop := ∀ o1 o2 : Bool, AFn Tryz.prog 47 [.agg (match e with | .mk k n x ks => [inA (k : Int), inA n, bs x, .sl (cW ks) ks.length (ofB o1)]), .agg (match e with | .mk k n x ks => [inA (k : Int), inA n, bs x, .sl (cW ks) ks.length (ofB o2)])] [] (.c (.bool true)) []
def cm : Nat → List Nat
  | 0 => [0, 1]
  | 1 => [0, 1]
  | 2 => []
  | 3 => [0, 1]
  | 4 => [0, 1, 5]
  | 5 => [0, 1, 5]
  | 6 => [0, 1, 5]
  | 7 => [0, 1, 5, 6]
  | 8 => []
  | 9 => []
  | _ => []
set_option maxRecDepth 100000 in
set_option maxHeartbeats 4000000 in
theorem pV (l : List Ex) (hl : l.length ≤ Lim) (h : ∀ e ∈ l, so e) (o1 o2 : Bool) : AFn Tryz.prog 48 [.sl (cW l) l.length (ofB o1), .sl (cW l) l.length (ofB o2)] [] (.c (.bool true)) [] := by
  unfold Lim at hl
  refine aK [] Tryz.func48 rfl Tryz.ntmps48 (Nat.le_of_ble_eq_true rfl) (Nat.le_of_ble_eq_true rfl) fun w0 G0 B0 Pr hB0 => ?_
  simp only [aQ, aI, List.cons_append, List.nil_append]
  repeat' (first | (with_reducible refine hY _ ?_; clear hY Y) | ((with_reducible first | refine av rfl (aD fun K' hK' => ab ?_) | refine hK' _ (ac fun Y hY => ab ?_) | refine ac fun Y hY => ab ?_ | refine ae tk0 cm (ac fun Y hY => ab ?_)); (try clear hK' K'); (try dsimp only [aop]); try simp only [go_sem, ↓reduceIte, Nat.reduceEqDiff, Nat.reduceLT, Nat.reduceLeDiff, Nat.reduceAdd, Nat.reduceSub, Nat.reduceMul, Nat.reduceBEq, Nat.reduceBNe, Nat.reducePow, Int.reduceToNat, Int.reduceLE, Int.reduceLT, Int.reduceMul, Int.reduceEq, Int.reducePow, Int.reduceAdd, Int.reduceSub, Int.reduceNeg, reduceCtorEq, cm, Tryz.results48]) | (with_reducible first | refine ai ?_ | refine al ?_ | refine am ?_ | refine aL fun K hK => ?_ | refine ar ?_ | refine aq ?_ | refine aC ?_ | refine bx ?_) | (with_reducible refine hK _ ?_; clear hK K) | ((with_reducible refine ah ?_ ?_); (· decide)))
  refine cw (α := Nat) (fun k => [(0, .sl (cW l) l.length (ofB o1)), (1, .sl (cW l) l.length (ofB o2)), (5, .c (.int .i64 (k : Int)))])
    (fun k => k ≤ l.length) (fun k => l.length - k) 0 [0, 1, 5] ?_ (Nat.zero_le _) ?_
  · simp only [go_sem, ↓reduceIte, Nat.reduceEqDiff, Nat.reduceLT, Nat.reduceLeDiff, Nat.reduceAdd, Nat.reduceSub, Nat.reduceMul, Nat.reduceBEq, Nat.reduceBNe, Nat.reducePow, Int.reduceToNat, Int.reduceLE, Int.reduceLT, Int.reduceMul, Int.reduceEq, Int.reducePow, Int.reduceAdd, Int.reduceSub, Int.reduceNeg, reduceCtorEq] <;> rfl
  intro k hk ih
  by_cases hlt : k < l.length
  · have hlt' : ((k : Int) < (l.length : Int)) = True := eq_true (by omega)
    have hkw : IntKind.i64.wrap ((k : Int) + 1) = ((k + 1 : Nat) : Int) := by rw [bO (by omega) (by omega)]; rfl
    have hg0 := yM hlt
    have hfl := kJ l
    have h1 := h l[k] (List.getElem_mem hlt) true true
    generalize l[k] = t at *
    obtain ⟨ek, en, ex, eks⟩ := t
    simp only [exA] at hg0
    simp only [ofB] at h1
    repeat' (first | (with_reducible refine hY _ ?_; clear hY Y) | ((with_reducible first | refine av rfl (aD fun K' hK' => ab ?_) | refine hK' _ (ac fun Y hY => ab ?_) | refine ac fun Y hY => ab ?_ | refine ae tk0 cm (ac fun Y hY => ab ?_) | refine ab ?_ | refine bY rfl (bI fun K' hK' => ab ?_) | refine hK' _ _ (ac fun Y hY => ab ?_)); (try clear hK' K'); (try dsimp only [aop]); try simp only [go_sem, ↓reduceIte, Nat.reduceEqDiff, Nat.reduceLT, Nat.reduceLeDiff, Nat.reduceAdd, Nat.reduceSub, Nat.reduceMul, Nat.reduceBEq, Nat.reduceBNe, Nat.reducePow, Int.reduceToNat, Int.reduceLE, Int.reduceLT, Int.reduceMul, Int.reduceEq, Int.reducePow, Int.reduceAdd, Int.reduceSub, Int.reduceNeg, reduceCtorEq, cm, Tryz.results48, hlt', hfl, hg0, hkw, beq_self_eq_true]) | (with_reducible first | refine ai ?_ | refine al ?_ | refine am ?_ | refine aL fun K hK => ?_ | refine ax ?_ | refine ar ?_ | refine aO ?_ | refine aq ?_ | refine aC ?_ | refine bl ?_ | refine dq fun K hK => ?_) | (with_reducible refine hK _ ?_; clear hK K) | (with_reducible refine hK _ _ ?_ ?_; (· kernel_rfl); clear hK K) | ((with_reducible refine ah ?_ ?_); (· decide)) | (with_reducible refine bm tk0 cm ?_ ?_; (· kernel_rfl)) | (with_reducible refine bQ ?_ ?_; (· (try and_intros) <;> first | omega | assumption | (simp only [List.length_append, List.length_map, List.length_cons, List.length_nil] <;> omega))) | (with_reducible refine aa (h1) ?_))
    refine bA [0, 1, 5] (by simp only [go_sem, ↓reduceIte, Nat.reduceEqDiff, Nat.reduceLT, Nat.reduceLeDiff, Nat.reduceAdd, Nat.reduceSub, Nat.reduceMul, Nat.reduceBEq, Nat.reduceBNe, Nat.reducePow, Int.reduceToNat, Int.reduceLE, Int.reduceLT, Int.reduceMul, Int.reduceEq, Int.reducePow, Int.reduceAdd, Int.reduceSub, Int.reduceNeg, reduceCtorEq]; exact rfl) ?_
    exact ih (k + 1) (by omega) (by omega)
  · have hlt' : ((k : Int) < (l.length : Int)) = False := eq_false (by omega)
    repeat' (first | (with_reducible refine hY _ ?_; clear hY Y) | ((with_reducible first | refine av rfl (aD fun K' hK' => ab ?_) | refine hK' _ (ac fun Y hY => ab ?_) | refine ac fun Y hY => ab ?_ | refine ae tk0 cm (ac fun Y hY => ab ?_) | refine ab ?_ | refine ap ?_); (try clear hK' K'); (try dsimp only [aop]); try simp only [go_sem, ↓reduceIte, Nat.reduceEqDiff, Nat.reduceLT, Nat.reduceLeDiff, Nat.reduceAdd, Nat.reduceSub, Nat.reduceMul, Nat.reduceBEq, Nat.reduceBNe, Nat.reducePow, Int.reduceToNat, Int.reduceLE, Int.reduceLT, Int.reduceMul, Int.reduceEq, Int.reducePow, Int.reduceAdd, Int.reduceSub, Int.reduceNeg, reduceCtorEq, cm, Tryz.results48, hlt']) | (with_reducible first | refine ai ?_ | refine al ?_ | refine am ?_ | refine aL fun K hK => ?_ | refine ar ?_ | refine bN ?_ | refine bo ?_ | refine az ?_ | refine bq ?_) | (with_reducible refine hK _ ?_; clear hK K) | ((with_reducible refine ah ?_ ?_); (· decide)))
def d9 : Nat → List Nat
  | 0 => [0, 1]
  | 1 => [2, 3]
  | _ => []
set_option maxRecDepth 100000 in
set_option maxHeartbeats 4000000 in
theorem xP (k : Nat) (n : Int) (x : Wd) (ks : List Ex) (h : ∀ o1 o2 : Bool, AFn Tryz.prog 48 [.sl (cW ks) ks.length (ofB o1), .sl (cW ks) ks.length (ofB o2)] [] (.c (.bool true)) []) : so (.mk k n x ks) := fun o1 o2 => by
  have h1 := h o1 o2
  simp only
  refine aK [] Tryz.func47 rfl Tryz.ntmps47 (Nat.le_of_ble_eq_true rfl) (Nat.le_of_ble_eq_true rfl) fun w0 G0 B0 Pr hB0 => ?_
  simp only [aQ, aI, List.cons_append, List.nil_append]
  repeat' (first | (with_reducible refine hY _ ?_; clear hY Y) | ((with_reducible first | refine av rfl (aD fun K' hK' => ab ?_) | refine hK' _ (ac fun Y hY => ab ?_) | refine bR rfl (ac fun Y hY => ab ?_) | refine ac fun Y hY => ab ?_ | refine aD fun K' hK' => ab ?_ | refine ae tk0 d9 (ac fun Y hY => ab ?_) | refine ab ?_ | refine ap ?_); (try clear hK' K'); (try dsimp only [aop]); try simp only [go_sem, ↓reduceIte, Nat.reduceEqDiff, Nat.reduceLT, Nat.reduceLeDiff, Nat.reduceAdd, Nat.reduceSub, Nat.reduceMul, Nat.reduceBEq, Nat.reduceBNe, Nat.reducePow, Int.reduceToNat, Int.reduceLE, Int.reduceLT, Int.reduceMul, Int.reduceEq, Int.reducePow, Int.reduceAdd, Int.reduceSub, Int.reduceNeg, reduceCtorEq, d9, Tryz.results47, beq_self_eq_true]) | (with_reducible first | refine ai ?_ | refine aS ?_ | refine al ?_ | refine am ?_ | refine aL fun K hK => ?_ | refine az ?_) | (with_reducible refine hK _ ?_; clear hK K) | ((with_reducible refine aR ?_ ?_); (· decide)) | (with_reducible refine aa (h1) ?_) | (with_reducible refine be (aU _) ?_))
mutual
theorem ky : ∀ e, gF e → so e
  | .mk k n x ks, h => xP k n x ks (pV ks h.1 (lp ks h.2))
theorem lp : ∀ l, i4 l → ∀ e ∈ l, so e
  | [], _ => fun e he => absurd he List.not_mem_nil
  | a :: l, h => gg (ky a h.1) (lp l h.2)
end
theorem l5 (l : List Ex) (h : l.length ≤ Lim ∧ i4 l) (o1 o2 : Bool) : AFn Tryz.prog 48 [.sl (cW l) l.length (ofB o1), .sl (cW l) l.length (ofB o2)] [] (.c (.bool true)) [] := pV l h.1 (lp l h.2) o1 o2
def tj (e : Co) : Prop := ∀ o1 o2 o3 o4 : Bool, AFn Tryz.prog 46 [.agg (match e with | .mk k e ks => [inA (k : Int), .sl (cW e) e.length (ofB o1), .sl (eV ks) ks.length (ofB o2)]), .agg (match e with | .mk k e ks => [inA (k : Int), .sl (cW e) e.length (ofB o3), .sl (eV ks) ks.length (ofB o4)])] [] (.c (.bool true)) []
def co : Nat → List Nat
  | 0 => [0, 1]
  | 1 => [2, 3]
  | 2 => []
  | 3 => [2, 3]
  | 4 => [2, 3, 5]
  | 5 => [2, 3, 5]
  | 6 => [2, 3, 5]
  | 7 => [2, 3, 5, 6]
  | 8 => []
  | 9 => []
  | _ => []
set_option maxRecDepth 100000 in
set_option maxHeartbeats 4000000 in
theorem xw (kd : Nat) (es : List Ex) (l : List Co) (he : es.length ≤ Lim ∧ i4 es) (hl : l.length ≤ Lim) (h : ∀ e ∈ l, tj e) : tj (.mk kd es l) := fun o1 o2 o3 o4 => by
  have h1 := l5 es he o1 o3
  unfold Lim at hl
  simp only
  refine aK [] Tryz.func46 rfl Tryz.ntmps46 (Nat.le_of_ble_eq_true rfl) (Nat.le_of_ble_eq_true rfl) fun w0 G0 B0 Pr hB0 => ?_
  simp only [aQ, aI, List.cons_append, List.nil_append]
  repeat' (first | (with_reducible refine hY _ ?_; clear hY Y) | ((with_reducible first | refine av rfl (aD fun K' hK' => ab ?_) | refine hK' _ (ac fun Y hY => ab ?_) | refine bR rfl (ac fun Y hY => ab ?_) | refine ac fun Y hY => ab ?_ | refine aD fun K' hK' => ab ?_ | refine ae tk0 co (ac fun Y hY => ab ?_) | refine ab ?_); (try clear hK' K'); (try dsimp only [aop]); try simp only [go_sem, ↓reduceIte, Nat.reduceEqDiff, Nat.reduceLT, Nat.reduceLeDiff, Nat.reduceAdd, Nat.reduceSub, Nat.reduceMul, Nat.reduceBEq, Nat.reduceBNe, Nat.reducePow, Int.reduceToNat, Int.reduceLE, Int.reduceLT, Int.reduceMul, Int.reduceEq, Int.reducePow, Int.reduceAdd, Int.reduceSub, Int.reduceNeg, reduceCtorEq, co, Tryz.results46, beq_self_eq_true]) | (with_reducible first | refine ai ?_ | refine aS ?_ | refine al ?_ | refine am ?_ | refine aL fun K hK => ?_ | refine ar ?_ | refine aq ?_ | refine aC ?_ | refine bx ?_) | (with_reducible refine hK _ ?_; clear hK K) | ((with_reducible first | refine aR ?_ ?_ | refine ah ?_ ?_); (· decide)) | (with_reducible refine aa (h1) ?_))
  refine cw (α := Nat) (fun k => [(2, .loc 10002 0), (3, .loc 10003 0), (5, .c (.int .i64 (k : Int))), (10002, .bc [inA (kd : Int), .sl (cW es) es.length (ofB o1), .sl (eV l) l.length (ofB o2)] 40), (10003, .bc [inA (kd : Int), .sl (cW es) es.length (ofB o3), .sl (eV l) l.length (ofB o4)] 40)])
    (fun k => k ≤ l.length) (fun k => l.length - k) 0 [2, 3, 5] ?_ (Nat.zero_le _) ?_
  · simp only [go_sem, ↓reduceIte, Nat.reduceEqDiff, Nat.reduceLT, Nat.reduceLeDiff, Nat.reduceAdd, Nat.reduceSub, Nat.reduceMul, Nat.reduceBEq, Nat.reduceBNe, Nat.reducePow, Int.reduceToNat, Int.reduceLE, Int.reduceLT, Int.reduceMul, Int.reduceEq, Int.reducePow, Int.reduceAdd, Int.reduceSub, Int.reduceNeg, reduceCtorEq] <;> rfl
  intro k hk ih
  by_cases hlt : k < l.length
  · have hlt' : ((k : Int) < (l.length : Int)) = True := eq_true (by omega)
    have hkw : IntKind.i64.wrap ((k : Int) + 1) = ((k + 1 : Nat) : Int) := by rw [bO (by omega) (by omega)]; rfl
    have hg0 := yL hlt
    have hfl := qA l
    have h2 := h l[k] (List.getElem_mem hlt) true true true true
    generalize l[k] = t at *
    obtain ⟨ck, ce, cks⟩ := t
    simp only [coA] at hg0
    simp only [ofB] at h2
    repeat' (first | (with_reducible refine hY _ ?_; clear hY Y) | ((with_reducible first | refine av rfl (aD fun K' hK' => ab ?_) | refine hK' _ (ac fun Y hY => ab ?_) | refine ac fun Y hY => ab ?_ | refine ae tk0 co (ac fun Y hY => ab ?_) | refine ab ?_ | refine bY rfl (bI fun K' hK' => ab ?_) | refine hK' _ _ (ac fun Y hY => ab ?_)); (try clear hK' K'); (try dsimp only [aop]); try simp only [go_sem, ↓reduceIte, Nat.reduceEqDiff, Nat.reduceLT, Nat.reduceLeDiff, Nat.reduceAdd, Nat.reduceSub, Nat.reduceMul, Nat.reduceBEq, Nat.reduceBNe, Nat.reducePow, Int.reduceToNat, Int.reduceLE, Int.reduceLT, Int.reduceMul, Int.reduceEq, Int.reducePow, Int.reduceAdd, Int.reduceSub, Int.reduceNeg, reduceCtorEq, co, Tryz.results46, hlt', hfl, hg0, hkw, beq_self_eq_true]) | (with_reducible first | refine ai ?_ | refine al ?_ | refine am ?_ | refine aL fun K hK => ?_ | refine ax ?_ | refine ar ?_ | refine aO ?_ | refine aq ?_ | refine aC ?_ | refine bl ?_ | refine dq fun K hK => ?_) | (with_reducible refine hK _ ?_; clear hK K) | (with_reducible refine hK _ _ ?_ ?_; (· kernel_rfl); clear hK K) | ((with_reducible refine ah ?_ ?_); (· decide)) | (with_reducible refine bm tk0 co ?_ ?_; (· kernel_rfl)) | (with_reducible refine bQ ?_ ?_; (· (try and_intros) <;> first | omega | assumption | (simp only [List.length_append, List.length_map, List.length_cons, List.length_nil] <;> omega))) | (with_reducible refine aa (h2) ?_))
    refine bA [2, 3, 5] (by simp only [go_sem, ↓reduceIte, Nat.reduceEqDiff, Nat.reduceLT, Nat.reduceLeDiff, Nat.reduceAdd, Nat.reduceSub, Nat.reduceMul, Nat.reduceBEq, Nat.reduceBNe, Nat.reducePow, Int.reduceToNat, Int.reduceLE, Int.reduceLT, Int.reduceMul, Int.reduceEq, Int.reducePow, Int.reduceAdd, Int.reduceSub, Int.reduceNeg, reduceCtorEq]; exact rfl) ?_
    exact ih (k + 1) (by omega) (by omega)
  · have hlt' : ((k : Int) < (l.length : Int)) = False := eq_false (by omega)
    repeat' (first | (with_reducible refine hY _ ?_; clear hY Y) | ((with_reducible first | refine av rfl (aD fun K' hK' => ab ?_) | refine hK' _ (ac fun Y hY => ab ?_) | refine ac fun Y hY => ab ?_ | refine ae tk0 co (ac fun Y hY => ab ?_) | refine ab ?_ | refine ap ?_); (try clear hK' K'); (try dsimp only [aop]); try simp only [go_sem, ↓reduceIte, Nat.reduceEqDiff, Nat.reduceLT, Nat.reduceLeDiff, Nat.reduceAdd, Nat.reduceSub, Nat.reduceMul, Nat.reduceBEq, Nat.reduceBNe, Nat.reducePow, Int.reduceToNat, Int.reduceLE, Int.reduceLT, Int.reduceMul, Int.reduceEq, Int.reducePow, Int.reduceAdd, Int.reduceSub, Int.reduceNeg, reduceCtorEq, co, Tryz.results46, hlt']) | (with_reducible first | refine ai ?_ | refine al ?_ | refine am ?_ | refine aL fun K hK => ?_ | refine ar ?_ | refine bN ?_ | refine bo ?_ | refine az ?_ | refine bq ?_) | (with_reducible refine hK _ ?_; clear hK K) | ((with_reducible refine ah ?_ ?_); (· decide)))
mutual
theorem oz : ∀ e, g8 e → tj e
  | .mk k e ks, h => xw k e ks h.1 h.2.1 (n7 ks h.2.2)
theorem n7 : ∀ l, uo l → ∀ e ∈ l, tj e
  | [], _ => fun e he => absurd he List.not_mem_nil
  | a :: l, h => gg (oz a h.1) (n7 l h.2)
end
end Go.Proofs.YtpkcgdikbjaoaaaGreatDoor
namespace Go.Proofs.YtpkcgdikbjaoaaaGreatDoor
set_option linter.unusedSimpArgs false
set_option linter.unusedVariables false
open Go.RowKit
def rZ (e : As) : Prop := ∀ b : Bool, AFn Tryz.prog 21
  [.agg (match e with | .mk k (.mk ck ce cks) (.mk ek en ex eks) (.mk vk vn vx vks) f n ks => [inA (k : Int), inA (ck : Int), .sl (cW ce) ce.length (ofB b), .sl (eV cks) cks.length (ofB b), inA (ek : Int), inA en, bs ex, .sl (cW eks) eks.length (ofB b), inA (vk : Int), inA vn, bs vx, .sl (cW vks) vks.length (ofB b), bs f, inA n, .sl (gb ks) ks.length (ofB b)]),
   .agg (match e with | .mk k (.mk ck ce cks) (.mk ek en ex eks) (.mk vk vn vx vks) f n ks => [inA (k : Int), inA (ck : Int), .sl (cW ce) ce.length (ofB b), .sl (eV cks) cks.length (ofB b), inA (ek : Int), inA en, bs ex, .sl (cW eks) eks.length (ofB b), inA (vk : Int), inA vn, bs vx, .sl (cW vks) vks.length (ofB b), bs f, inA n, .sl (gb ks) ks.length (ofB b)])] [] (.c (.bool true)) []
def cq : Nat → List Nat
  | 0 => [0, 1]
  | 1 => [2, 3]
  | 2 => []
  | 3 => [2, 3]
  | 4 => [2, 3, 5]
  | 5 => [2, 3, 5]
  | 6 => [2, 3, 5]
  | 7 => [2, 3, 5, 6]
  | 8 => []
  | 9 => []
  | _ => []
set_option maxRecDepth 100000 in
set_option maxHeartbeats 8000000 in
theorem xO (kd : Nat) (c : Co) (e v : Ex) (f : Wd) (n : Int) (l : List As) (hc : g8 c) (he : gF e) (hv : gF v) (hl : l.length ≤ Lim) (h : ∀ a ∈ l, rZ a) : rZ (.mk kd c e v f n l) := fun b => by
  have h1 := oz c hc b b b b
  have h2 := ky e he b b
  have h3 := ky v hv b b
  obtain ⟨ck, ce, cks⟩ := c
  obtain ⟨ek, en, ex, eks⟩ := e
  obtain ⟨vk, vn, vx, vks⟩ := v
  unfold Lim at hl
  simp only at h1 h2 h3 ⊢
  clear hc he hv
  refine aK [] Tryz.func21 rfl Tryz.ntmps21 (Nat.le_of_ble_eq_true rfl) (Nat.le_of_ble_eq_true rfl) fun w0 G0 B0 Pr hB0 => ?_
  simp only [aQ, aI, List.cons_append, List.nil_append]
  repeat' (first | (with_reducible refine hY _ ?_; clear hY Y) | ((with_reducible first | refine av rfl (aD fun K' hK' => ab ?_) | refine hK' _ (ac fun Y hY => ab ?_) | refine bR rfl (ac fun Y hY => ab ?_) | refine ac fun Y hY => ab ?_ | refine aD fun K' hK' => ab ?_ | refine ae tk0 cq (ac fun Y hY => ab ?_) | refine ab ?_); (try clear hK' K'); (try dsimp only [aop]); try simp only [go_sem, ↓reduceIte, Nat.reduceEqDiff, Nat.reduceLT, Nat.reduceLeDiff, Nat.reduceAdd, Nat.reduceSub, Nat.reduceMul, Nat.reduceBEq, Nat.reduceBNe, Nat.reducePow, Int.reduceToNat, Int.reduceLE, Int.reduceLT, Int.reduceMul, Int.reduceEq, Int.reducePow, Int.reduceAdd, Int.reduceSub, Int.reduceNeg, reduceCtorEq, cq, Tryz.results21, beq_self_eq_true]) | (with_reducible first | refine ai ?_ | refine aS ?_ | refine al ?_ | refine am ?_ | refine aL fun K hK => ?_ | refine ar ?_ | refine aq ?_ | refine aC ?_ | refine bx ?_) | (with_reducible refine hK _ ?_; clear hK K) | ((with_reducible first | refine aR ?_ ?_ | refine ah ?_ ?_); (· decide)) | (with_reducible refine aa (h1) ?_) | (with_reducible refine aa (h2) ?_) | (with_reducible refine aa (h3) ?_) | (with_reducible refine be (aU _) ?_))
  refine cw (α := Nat) (fun k => [(2, .loc 10002 0), (3, .loc 10003 0), (5, .c (.int .i64 (k : Int))),
      (10002, .bc [inA (kd : Int), inA (ck : Int), .sl (cW ce) ce.length (ofB b), .sl (eV cks) cks.length (ofB b), inA (ek : Int), inA en, bs ex, .sl (cW eks) eks.length (ofB b), inA (vk : Int), inA vn, bs vx, .sl (cW vks) vks.length (ofB b), bs f, inA n, .sl (gb l) l.length (ofB b)] 45),
      (10003, .bc [inA (kd : Int), inA (ck : Int), .sl (cW ce) ce.length (ofB b), .sl (eV cks) cks.length (ofB b), inA (ek : Int), inA en, bs ex, .sl (cW eks) eks.length (ofB b), inA (vk : Int), inA vn, bs vx, .sl (cW vks) vks.length (ofB b), bs f, inA n, .sl (gb l) l.length (ofB b)] 45)])
    (fun k => k ≤ l.length) (fun k => l.length - k) 0 [2, 3, 5] ?_ (Nat.zero_le _) ?_
  · simp only [go_sem, ↓reduceIte, Nat.reduceEqDiff, Nat.reduceLT, Nat.reduceLeDiff, Nat.reduceAdd, Nat.reduceSub, Nat.reduceMul, Nat.reduceBEq, Nat.reduceBNe, Nat.reducePow, Int.reduceToNat, Int.reduceLE, Int.reduceLT, Int.reduceMul, Int.reduceEq, Int.reducePow, Int.reduceAdd, Int.reduceSub, Int.reduceNeg, reduceCtorEq] <;> rfl
  intro k hk ih
  by_cases hlt : k < l.length
  · have hlt' : ((k : Int) < (l.length : Int)) = True := eq_true (by omega)
    have hkw : IntKind.i64.wrap ((k : Int) + 1) = ((k + 1 : Nat) : Int) := by rw [bO (by omega) (by omega)]; rfl
    have hg0 := yR hlt
    have hfl := qp l
    have h4 := h l[k] (List.getElem_mem hlt) true
    generalize l[k] = t at *
    obtain ⟨tk, ⟨tck, tce, tcks⟩, ⟨tek, ten, tex, teks⟩, ⟨tvk, tvn, tvx, tvks⟩, tf, tn, tks⟩ := t
    simp only [asA, coA, exA, List.cons_append, List.nil_append] at hg0
    simp only [ofB] at h4
    repeat' (first | (with_reducible refine hY _ ?_; clear hY Y) | ((with_reducible first | refine av rfl (aD fun K' hK' => ab ?_) | refine hK' _ (ac fun Y hY => ab ?_) | refine ac fun Y hY => ab ?_ | refine ae tk0 cq (ac fun Y hY => ab ?_) | refine ab ?_ | refine bY rfl (bI fun K' hK' => ab ?_) | refine hK' _ _ (ac fun Y hY => ab ?_)); (try clear hK' K'); (try dsimp only [aop]); try simp only [go_sem, ↓reduceIte, Nat.reduceEqDiff, Nat.reduceLT, Nat.reduceLeDiff, Nat.reduceAdd, Nat.reduceSub, Nat.reduceMul, Nat.reduceBEq, Nat.reduceBNe, Nat.reducePow, Int.reduceToNat, Int.reduceLE, Int.reduceLT, Int.reduceMul, Int.reduceEq, Int.reducePow, Int.reduceAdd, Int.reduceSub, Int.reduceNeg, reduceCtorEq, cq, Tryz.results21, hlt', hfl, hg0, hkw, beq_self_eq_true]) | (with_reducible first | refine ai ?_ | refine al ?_ | refine am ?_ | refine aL fun K hK => ?_ | refine ax ?_ | refine ar ?_ | refine aO ?_ | refine aq ?_ | refine aC ?_ | refine bl ?_ | refine dq fun K hK => ?_) | (with_reducible refine hK _ ?_; clear hK K) | (with_reducible refine hK _ _ ?_ ?_; (· kernel_rfl); clear hK K) | ((with_reducible refine ah ?_ ?_); (· decide)) | (with_reducible refine bm tk0 cq ?_ ?_; (· kernel_rfl)) | (with_reducible refine bQ ?_ ?_; (· (try and_intros) <;> first | omega | assumption | (simp only [List.length_append, List.length_map, List.length_cons, List.length_nil] <;> omega))) | (with_reducible refine aa (h4) ?_))
    refine bA [2, 3, 5] (by simp only [go_sem, ↓reduceIte, Nat.reduceEqDiff, Nat.reduceLT, Nat.reduceLeDiff, Nat.reduceAdd, Nat.reduceSub, Nat.reduceMul, Nat.reduceBEq, Nat.reduceBNe, Nat.reducePow, Int.reduceToNat, Int.reduceLE, Int.reduceLT, Int.reduceMul, Int.reduceEq, Int.reducePow, Int.reduceAdd, Int.reduceSub, Int.reduceNeg, reduceCtorEq]; exact rfl) ?_
    exact ih (k + 1) (by omega) (by omega)
  · have hlt' : ((k : Int) < (l.length : Int)) = False := eq_false (by omega)
    repeat' (first | (with_reducible refine hY _ ?_; clear hY Y) | ((with_reducible first | refine av rfl (aD fun K' hK' => ab ?_) | refine hK' _ (ac fun Y hY => ab ?_) | refine ac fun Y hY => ab ?_ | refine ae tk0 cq (ac fun Y hY => ab ?_) | refine ab ?_ | refine ap ?_); (try clear hK' K'); (try dsimp only [aop]); try simp only [go_sem, ↓reduceIte, Nat.reduceEqDiff, Nat.reduceLT, Nat.reduceLeDiff, Nat.reduceAdd, Nat.reduceSub, Nat.reduceMul, Nat.reduceBEq, Nat.reduceBNe, Nat.reducePow, Int.reduceToNat, Int.reduceLE, Int.reduceLT, Int.reduceMul, Int.reduceEq, Int.reducePow, Int.reduceAdd, Int.reduceSub, Int.reduceNeg, reduceCtorEq, cq, Tryz.results21, hlt']) | (with_reducible first | refine ai ?_ | refine al ?_ | refine am ?_ | refine aL fun K hK => ?_ | refine ar ?_ | refine bN ?_ | refine bo ?_ | refine az ?_ | refine bq ?_) | (with_reducible refine hK _ ?_; clear hK K) | ((with_reducible refine ah ?_ ?_); (· decide)))
mutual
theorem lM : ∀ e, i8 e → rZ e
  | .mk k c e v f n ks, h => xO k c e v f n ks h.1 h.2.1 h.2.2.1 h.2.2.2.1 (ou ks h.2.2.2.2)
theorem ou : ∀ l, un l → ∀ e ∈ l, rZ e
  | [], _ => fun e he => absurd he List.not_mem_nil
  | a :: l, h => gg (lM a h.1) (ou l h.2)
end
def j5 (l : List St) : Prop := AFn Tryz.prog 22 [.sl (ez l) l.length .none, .sl (ez l) l.length .none] [] (.c (.bool true)) []
def yU : St → Prop
  | .mk _ _ _ _ _ _ _ _ _ _ _ b l => j5 b ∧ j5 l
def cz : Nat → List Nat
  | 0 => [0, 1]
  | 1 => [0, 1]
  | 2 => []
  | 3 => [0, 1]
  | 4 => [0, 1, 5]
  | 5 => [0, 1, 5]
  | 6 => [0, 1, 5]
  | 7 => [0, 1, 5, 6]
  | 8 => [0, 1, 5, 6, 7]
  | 9 => []
  | 10 => [0, 1, 5, 6, 7]
  | 11 => []
  | 12 => [0, 1, 5, 6, 7]
  | 13 => []
  | 14 => []
  | _ => []
set_option maxRecDepth 100000 in
set_option maxHeartbeats 16000000 in
theorem oO (l : List St) (hl : l.length ≤ Lim) (h : ∀ s ∈ l, jT s ∧ yU s) : j5 l := by
  unfold j5
  unfold Lim at hl
  refine aK [] Tryz.func22 rfl Tryz.ntmps22 (Nat.le_of_ble_eq_true rfl) (Nat.le_of_ble_eq_true rfl) fun w0 G0 B0 Pr hB0 => ?_
  simp only [aQ, aI, List.cons_append, List.nil_append]
  repeat' (first | (with_reducible refine hY _ ?_; clear hY Y) | ((with_reducible first | refine av rfl (aD fun K' hK' => ab ?_) | refine hK' _ (ac fun Y hY => ab ?_) | refine ac fun Y hY => ab ?_ | refine ae tk0 cz (ac fun Y hY => ab ?_)); (try clear hK' K'); (try dsimp only [aop]); try simp only [go_sem, ↓reduceIte, Nat.reduceEqDiff, Nat.reduceLT, Nat.reduceLeDiff, Nat.reduceAdd, Nat.reduceSub, Nat.reduceMul, Nat.reduceBEq, Nat.reduceBNe, Nat.reducePow, Int.reduceToNat, Int.reduceLE, Int.reduceLT, Int.reduceMul, Int.reduceEq, Int.reducePow, Int.reduceAdd, Int.reduceSub, Int.reduceNeg, reduceCtorEq, cz, Tryz.results22]) | (with_reducible first | refine ai ?_ | refine al ?_ | refine am ?_ | refine aL fun K hK => ?_ | refine ar ?_ | refine aq ?_ | refine aC ?_ | refine bx ?_) | (with_reducible refine hK _ ?_; clear hK K) | ((with_reducible refine ah ?_ ?_); (· decide)))
  refine cw (α := Nat) (fun k => [(0, .sl (ez l) l.length .none), (1, .sl (ez l) l.length .none), (5, .c (.int .i64 (k : Int)))])
    (fun k => k ≤ l.length) (fun k => l.length - k) 0 [0, 1, 5] ?_ (Nat.zero_le _) ?_
  · simp only [go_sem, ↓reduceIte, Nat.reduceEqDiff, Nat.reduceLT, Nat.reduceLeDiff, Nat.reduceAdd, Nat.reduceSub, Nat.reduceMul, Nat.reduceBEq, Nat.reduceBNe, Nat.reducePow, Int.reduceToNat, Int.reduceLE, Int.reduceLT, Int.reduceMul, Int.reduceEq, Int.reducePow, Int.reduceAdd, Int.reduceSub, Int.reduceNeg, reduceCtorEq] <;> rfl
  intro k hk ih
  by_cases hlt : k < l.length
  · have hlt' : ((k : Int) < (l.length : Int)) = True := eq_true (by omega)
    have hkw : IntKind.i64.wrap ((k : Int) + 1) = ((k + 1 : Nat) : Int) := by rw [bO (by omega) (by omega)]; rfl
    have hg0 := yc hlt
    have hfl := kC l
    have h4 := h l[k] (List.getElem_mem hlt)
    generalize l[k] = t at *
    obtain ⟨sk, sx, sf, sy, e, v, c, a, rs, gs, fs, b, els⟩ := t
    obtain ⟨⟨f1, f2, f3, f4, f5, f6, f7, f8, f9⟩, hb1, hb2⟩ := h4
    have h1 := ky e f1 false false
    have h2 := ky v f2 false false
    have h3 := oz c f3 false false false false
    have h5 := lM a f4 false
    have h6 := l5 rs f5 false false
    have h7 := l5 gs f6 false false
    have h8 := jf fs false false f7
    obtain ⟨ek, en, ex, eks⟩ := e
    obtain ⟨vk, vn, vx, vks⟩ := v
    obtain ⟨ck, ce, cks⟩ := c
    obtain ⟨ak, ⟨ack, ace, acks⟩, ⟨aek, aen, aex, aeks⟩, ⟨avk, avn, avx, avks⟩, af, an, aks⟩ := a
    unfold j5 at hb1 hb2
    simp only [stW, asA, coA, exA, List.cons_append, List.nil_append, List.map_cons, List.map_nil, wkA] at hg0
    simp only [ofB] at h1 h2 h3 h5 h6 h7 h8
    clear f1 f2 f3 f4 f5 f6 f7 f8 f9 h
    repeat' (first | (with_reducible refine hY _ ?_; clear hY Y) | ((with_reducible first | refine av rfl (aD fun K' hK' => ab ?_) | refine hK' _ (ac fun Y hY => ab ?_) | refine bR rfl (ac fun Y hY => ab ?_) | refine ac fun Y hY => ab ?_ | refine aD fun K' hK' => ab ?_ | refine ae tk0 cz (ac fun Y hY => ab ?_) | refine ab ?_); (try clear hK' K'); (try dsimp only [aop]); try simp only [go_sem, ↓reduceIte, Nat.reduceEqDiff, Nat.reduceLT, Nat.reduceLeDiff, Nat.reduceAdd, Nat.reduceSub, Nat.reduceMul, Nat.reduceBEq, Nat.reduceBNe, Nat.reducePow, Int.reduceToNat, Int.reduceLE, Int.reduceLT, Int.reduceMul, Int.reduceEq, Int.reducePow, Int.reduceAdd, Int.reduceSub, Int.reduceNeg, reduceCtorEq, cz, Tryz.results22, hlt', hfl, hg0, hkw, beq_self_eq_true]) | (with_reducible first | refine ai ?_ | refine aS ?_ | refine al ?_ | refine am ?_ | refine aL fun K hK => ?_ | refine ax ?_ | refine ar ?_ | refine aO ?_ | refine aq ?_ | refine aC ?_) | (with_reducible refine hK _ ?_; clear hK K) | ((with_reducible first | refine aR ?_ ?_ | refine ah ?_ ?_); (· decide)) | (with_reducible refine bQ ?_ ?_; (· (try and_intros) <;> first | omega | assumption | (simp only [List.length_append, List.length_map, List.length_cons, List.length_nil] <;> omega))) | (with_reducible refine aa (h1) ?_) | (with_reducible refine aa (h2) ?_) | (with_reducible refine aa (h3) ?_) | (with_reducible refine aa (h5) ?_) | (with_reducible refine aa (h6) ?_) | (with_reducible refine aa (h7) ?_) | (with_reducible refine aa (h8) ?_) | (with_reducible refine aa (hb1) ?_) | (with_reducible refine aa (hb2) ?_) | (with_reducible refine be (aU _) ?_))
    refine bA [0, 1, 5] (by simp only [go_sem, ↓reduceIte, Nat.reduceEqDiff, Nat.reduceLT, Nat.reduceLeDiff, Nat.reduceAdd, Nat.reduceSub, Nat.reduceMul, Nat.reduceBEq, Nat.reduceBNe, Nat.reducePow, Int.reduceToNat, Int.reduceLE, Int.reduceLT, Int.reduceMul, Int.reduceEq, Int.reducePow, Int.reduceAdd, Int.reduceSub, Int.reduceNeg, reduceCtorEq]; exact rfl) ?_
    exact ih (k + 1) (by omega) (by omega)
  · have hlt' : ((k : Int) < (l.length : Int)) = False := eq_false (by omega)
    repeat' (first | (with_reducible refine hY _ ?_; clear hY Y) | ((with_reducible first | refine av rfl (aD fun K' hK' => ab ?_) | refine hK' _ (ac fun Y hY => ab ?_) | refine ac fun Y hY => ab ?_ | refine ae tk0 cz (ac fun Y hY => ab ?_) | refine ab ?_ | refine ap ?_); (try clear hK' K'); (try dsimp only [aop]); try simp only [go_sem, ↓reduceIte, Nat.reduceEqDiff, Nat.reduceLT, Nat.reduceLeDiff, Nat.reduceAdd, Nat.reduceSub, Nat.reduceMul, Nat.reduceBEq, Nat.reduceBNe, Nat.reducePow, Int.reduceToNat, Int.reduceLE, Int.reduceLT, Int.reduceMul, Int.reduceEq, Int.reducePow, Int.reduceAdd, Int.reduceSub, Int.reduceNeg, reduceCtorEq, cz, Tryz.results22, hlt']) | (with_reducible first | refine ai ?_ | refine al ?_ | refine am ?_ | refine aL fun K hK => ?_ | refine ar ?_ | refine bN ?_ | refine bo ?_ | refine az ?_ | refine bq ?_) | (with_reducible refine hK _ ?_; clear hK K) | ((with_reducible refine ah ?_ ?_); (· decide)))
mutual
theorem zf : ∀ s, jT s → yU s
  | .mk k x f y e v c a rs gs fs b l, h => ⟨oO b h.2.2.2.2.2.2.2.1.1 (kS b h.2.2.2.2.2.2.2.1.2), oO l h.2.2.2.2.2.2.2.2.1 (kS l h.2.2.2.2.2.2.2.2.2)⟩
theorem kS : ∀ l, jl l → ∀ s ∈ l, jT s ∧ yU s
  | [], _ => fun e he => absurd he List.not_mem_nil
  | a :: l, h => gg ⟨h.1, zf a h.1⟩ (kS l h.2)
end
theorem xD (l : List St) (h : l.length ≤ Lim ∧ jl l) : j5 l := oO l h.1 (kS l h.2)
def cC : Nat → List Nat
  | 0 => [0, 1]
  | 1 => [2, 3]
  | 2 => []
  | 3 => [2, 3]
  | 4 => [2, 3, 5]
  | 5 => [2, 3, 5]
  | 6 => [2, 3, 5]
  | 7 => [2, 3, 5, 6]
  | 8 => [2, 3, 5, 6, 7]
  | 9 => []
  | 10 => []
  | _ => []
set_option maxRecDepth 100000 in
set_option maxHeartbeats 16000000 in
theorem mM (l : List Pc) (b : Bool) (hl : l.length ≤ Lim) (h : ∀ p ∈ l, vY p) : AFn Tryz.prog 9 [.agg [.sl (fU l) l.length (ofB b)], .agg [.sl (fU l) l.length (ofB b)]] [] (.c (.bool true)) [] := by
  unfold Lim at hl
  refine aK [] Tryz.func9 rfl Tryz.ntmps9 (Nat.le_of_ble_eq_true rfl) (Nat.le_of_ble_eq_true rfl) fun w0 G0 B0 Pr hB0 => ?_
  simp only [aQ, aI, List.cons_append, List.nil_append]
  repeat' (first | (with_reducible refine hY _ ?_; clear hY Y) | ((with_reducible first | refine av rfl (aD fun K' hK' => ab ?_) | refine hK' _ (ac fun Y hY => ab ?_) | refine ac fun Y hY => ab ?_ | refine ae tk0 cC (ac fun Y hY => ab ?_)); (try clear hK' K'); (try dsimp only [aop]); try simp only [go_sem, ↓reduceIte, Nat.reduceEqDiff, Nat.reduceLT, Nat.reduceLeDiff, Nat.reduceAdd, Nat.reduceSub, Nat.reduceMul, Nat.reduceBEq, Nat.reduceBNe, Nat.reducePow, Int.reduceToNat, Int.reduceLE, Int.reduceLT, Int.reduceMul, Int.reduceEq, Int.reducePow, Int.reduceAdd, Int.reduceSub, Int.reduceNeg, reduceCtorEq, cC, Tryz.results9]) | (with_reducible first | refine ai ?_ | refine al ?_ | refine am ?_ | refine aL fun K hK => ?_ | refine ar ?_ | refine aq ?_ | refine aC ?_ | refine bx ?_) | (with_reducible refine hK _ ?_; clear hK K) | ((with_reducible refine ah ?_ ?_); (· decide)))
  refine cw (α := Nat) (fun k => [(2, .loc 10002 0), (3, .loc 10003 0), (5, .c (.int .i64 (k : Int))), (10002, .bc [.sl (fU l) l.length (ofB b)] 25), (10003, .bc [.sl (fU l) l.length (ofB b)] 25)])
    (fun k => k ≤ l.length) (fun k => l.length - k) 0 [2, 3, 5] ?_ (Nat.zero_le _) ?_
  · simp only [go_sem, ↓reduceIte, Nat.reduceEqDiff, Nat.reduceLT, Nat.reduceLeDiff, Nat.reduceAdd, Nat.reduceSub, Nat.reduceMul, Nat.reduceBEq, Nat.reduceBNe, Nat.reducePow, Int.reduceToNat, Int.reduceLE, Int.reduceLT, Int.reduceMul, Int.reduceEq, Int.reducePow, Int.reduceAdd, Int.reduceSub, Int.reduceNeg, reduceCtorEq] <;> rfl
  intro k hk ih
  by_cases hlt : k < l.length
  · have hlt' : ((k : Int) < (l.length : Int)) = True := eq_true (by omega)
    have hkw : IntKind.i64.wrap ((k : Int) + 1) = ((k + 1 : Nat) : Int) := by rw [bO (by omega) (by omega)]; rfl
    have hg0 := wU hlt
    have hfl := kr l
    have h4 := h l[k] (List.getElem_mem hlt)
    generalize l[k] = t at *
    obtain ⟨x, ps, gs, pr, po, bd⟩ := t
    obtain ⟨f1, f2, f3, f4, f5⟩ := h4
    simp only at f1 f2 f3 f4 f5
    have h1 := jf ps false false f1
    have h2 := jf gs false false f2
    have h3 := lM pr f3 true
    have h5 := lM po f4 true
    have h6 := xD bd f5
    obtain ⟨ak, ⟨ack, ace, acks⟩, ⟨aek, aen, aex, aeks⟩, ⟨avk, avn, avx, avks⟩, af, an, aks⟩ := pr
    obtain ⟨qk, ⟨qck, qce, qcks⟩, ⟨qek, qen, qex, qeks⟩, ⟨qvk, qvn, qvx, qvks⟩, qf, qn, qks⟩ := po
    unfold j5 at h6
    simp only [pcW, asA, coA, exA, List.cons_append, List.nil_append] at hg0
    simp only [ofB] at h1 h2 h3 h5
    clear f1 f2 f3 f4 f5 h
    repeat' (first | (with_reducible refine hY _ ?_; clear hY Y) | ((with_reducible first | refine av rfl (aD fun K' hK' => ab ?_) | refine hK' _ (ac fun Y hY => ab ?_) | refine bR rfl (ac fun Y hY => ab ?_) | refine ac fun Y hY => ab ?_ | refine aD fun K' hK' => ab ?_ | refine ae tk0 cC (ac fun Y hY => ab ?_) | refine ab ?_); (try clear hK' K'); (try dsimp only [aop]); try simp only [go_sem, ↓reduceIte, Nat.reduceEqDiff, Nat.reduceLT, Nat.reduceLeDiff, Nat.reduceAdd, Nat.reduceSub, Nat.reduceMul, Nat.reduceBEq, Nat.reduceBNe, Nat.reducePow, Int.reduceToNat, Int.reduceLE, Int.reduceLT, Int.reduceMul, Int.reduceEq, Int.reducePow, Int.reduceAdd, Int.reduceSub, Int.reduceNeg, reduceCtorEq, cC, Tryz.results9, hlt', hfl, hg0, hkw, beq_self_eq_true]) | (with_reducible first | refine ai ?_ | refine aS ?_ | refine al ?_ | refine am ?_ | refine aL fun K hK => ?_ | refine ax ?_ | refine ar ?_ | refine aO ?_ | refine aq ?_ | refine aC ?_) | (with_reducible refine hK _ ?_; clear hK K) | ((with_reducible first | refine aR ?_ ?_ | refine ah ?_ ?_); (· decide)) | (with_reducible refine bQ ?_ ?_; (· (try and_intros) <;> first | omega | assumption | (simp only [List.length_append, List.length_map, List.length_cons, List.length_nil] <;> omega))) | (with_reducible refine aa (h1) ?_) | (with_reducible refine aa (h2) ?_) | (with_reducible refine aa (h3) ?_) | (with_reducible refine aa (h5) ?_) | (with_reducible refine aa (h6) ?_) | (with_reducible refine be (aU _) ?_))
    refine bA [2, 3, 5] (by simp only [go_sem, ↓reduceIte, Nat.reduceEqDiff, Nat.reduceLT, Nat.reduceLeDiff, Nat.reduceAdd, Nat.reduceSub, Nat.reduceMul, Nat.reduceBEq, Nat.reduceBNe, Nat.reducePow, Int.reduceToNat, Int.reduceLE, Int.reduceLT, Int.reduceMul, Int.reduceEq, Int.reducePow, Int.reduceAdd, Int.reduceSub, Int.reduceNeg, reduceCtorEq]; exact rfl) ?_
    exact ih (k + 1) (by omega) (by omega)
  · have hlt' : ((k : Int) < (l.length : Int)) = False := eq_false (by omega)
    repeat' (first | (with_reducible refine hY _ ?_; clear hY Y) | ((with_reducible first | refine av rfl (aD fun K' hK' => ab ?_) | refine hK' _ (ac fun Y hY => ab ?_) | refine ac fun Y hY => ab ?_ | refine ae tk0 cC (ac fun Y hY => ab ?_) | refine ab ?_ | refine ap ?_); (try clear hK' K'); (try dsimp only [aop]); try simp only [go_sem, ↓reduceIte, Nat.reduceEqDiff, Nat.reduceLT, Nat.reduceLeDiff, Nat.reduceAdd, Nat.reduceSub, Nat.reduceMul, Nat.reduceBEq, Nat.reduceBNe, Nat.reducePow, Int.reduceToNat, Int.reduceLE, Int.reduceLT, Int.reduceMul, Int.reduceEq, Int.reducePow, Int.reduceAdd, Int.reduceSub, Int.reduceNeg, reduceCtorEq, cC, Tryz.results9, hlt']) | (with_reducible first | refine ai ?_ | refine al ?_ | refine am ?_ | refine aL fun K hK => ?_ | refine ar ?_ | refine bN ?_ | refine bo ?_ | refine az ?_ | refine bq ?_) | (with_reducible refine hK _ ?_; clear hK K) | ((with_reducible refine ah ?_ ?_); (· decide)))
end Go.Proofs.YtpkcgdikbjaoaaaGreatDoor
namespace Go.Proofs.YtpkcgdikbjaoaaaGreatDoor
set_option linter.unusedSimpArgs false
set_option linter.unusedVariables false
open Go.RowKit
theorem qc : ∀ {l : List Ex}, (∀ e ∈ l, gF e) → i4 l
  | [], _ => trivial
  | a :: l, h => ⟨h a (by simp), qc fun e he => h e (by simp [he])⟩
theorem pU : ∀ {l : List St}, (∀ e ∈ l, jT e) → jl l
  | [], _ => trivial
  | a :: l, h => ⟨h a (by simp), pU fun e he => h e (by simp [he])⟩
theorem l0 : 0 ≤ Lim := Nat.zero_le _
theorem l1 : 1 ≤ Lim := by unfold Lim; omega
theorem l2 : 2 ≤ Lim := by unfold Lim; omega
theorem ed : gF exZ := ⟨l0, trivial⟩
theorem hU : g8 coZ := ⟨⟨l0, trivial⟩, l0, trivial⟩
theorem iV : i8 asZ := ⟨hU, ed, ed, l0, trivial⟩
theorem eR : ([] : List Ex).length ≤ Lim ∧ i4 [] := ⟨l0, trivial⟩
theorem fP : ([] : List St).length ≤ Lim ∧ jl [] := ⟨l0, trivial⟩
theorem wr : jT stZ := ⟨ed, ed, hU, iV, eR, eR, l0, fP, fP⟩
theorem kx {α : Type} {P : α → Prop} {w : Wd} {mk : α → α → α} {g : PS → α × PS} (hm : ∀ a b, P a → P b → P (mk a b)) (hg : ∀ s, P (g s).1) : ∀ (f : Nat) (out : α) (s : PS), P out → P (fk w mk g f out s).1
  | 0, out, s, h => h
  | f + 1, out, s, h => by
    unfold fk; split
    · exact kx hm hg f _ _ (hm _ _ h (hg _))
    · exact h
theorem pq {α : Type} {P : α → Prop} {w : Wd} {g : PS → α × PS} (hg : ∀ s, P (g s).1) : ∀ (f : Nat) (out : List α) (s : PS), (∀ a ∈ out, P a) → (fN w g f out s).1.length ≤ out.length + f ∧ ∀ a ∈ (fN w g f out s).1, P a
  | 0, out, s, h => ⟨Nat.le_refl _, h⟩
  | f + 1, out, s, h => by
    unfold fN; split
    · have := pq (w := w) hg f (out ++ [(g s.drop).1]) (g s.drop).2 (fun a ha => by
        rcases List.mem_append.1 ha with ha | ha
        · exact h a ha
        · rw [List.mem_singleton.1 ha]; exact hg _)
      rw [List.length_append, List.length_singleton] at this
      exact ⟨by omega, this.2⟩
    · exact ⟨Nat.le_add_right _ _, h⟩
theorem nt (x : Wd) (w : Wd) (g : PS → Wd × PS) (s : PS) : (fN w g FU [x] s).1.length ≤ Lim := by
  have := (pq (P := fun _ => True) (w := w) (g := g) (fun _ => trivial) FU [x] s (fun _ _ => trivial)).1
  rw [List.length_singleton] at this
  unfold Lim
  simp only [FU] at this ⊢
  omega
theorem nA (s : PS) (u : Wd) : (s.names u).1.length ≤ Lim := by
  unfold PS.names; split
  · exact l0
  · exact nt _ _ _ _
theorem mn {g : PS → Ex × PS} (hg : ∀ s, gF (g s).1) : ∀ (f : Nat) (e : Ex) (s : PS), gF e → gF (fE g f e s).1
  | 0, e, s, h => h
  | f + 1, e, s, h => by
    unfold fE; split
    · exact mn hg f _ _ ⟨l2, h, hg _, trivial⟩
    · exact h
theorem oi {g : PS → Ex × PS} (hg : ∀ s, gF (g s).1) (s : PS) : gF (jg g s).1 := mn hg FU _ _ (hg s)
theorem p9 {g : PS → Ex × PS} (hg : ∀ s, gF (g s).1) (z : Int) (s : PS) : gF (eN g z s).1 := by
  unfold eN
  simp only
  split
  · exact ⟨l1, hg _, trivial⟩
  · exact ⟨l0, trivial⟩
theorem ui {g : PS → Ex × PS} (hg : ∀ s, gF (g s).1) (s : PS) : gF (i6 g s).1 := by
  unfold i6
  simp only
  split
  · exact ed
  split
  · exact p9 hg _ _
  split
  · exact oi hg _
  · exact ⟨l0, trivial⟩
theorem nM : ∀ (f : Nat) (s : PS), gF (mR f s).1
  | 0, s => ed
  | f + 1, s => ui (nM f) s
theorem eX (s : PS) : gF (du s).1 := oi (nM FU) s
theorem nD (s : PS) (u : Wd) : (s.exprs u).1.length ≤ Lim ∧ i4 (s.exprs u).1 := by
  unfold PS.exprs; split
  · exact eR
  · have := pq (P := gF) (w := [44]) eX FU [(du s).1] (du s).2 (fun a ha => by rw [List.mem_singleton.1 ha]; exact eX s)
    refine ⟨?_, qc this.2⟩
    have h1 := this.1
    rw [List.length_singleton] at h1
    unfold Lim
    simp only [FU] at h1 ⊢
    omega
theorem sw (k : Nat) (a b : Co) (h1 : g8 a) (h2 : g8 b) : g8 (.mk k [] [a, b]) := ⟨eR, l2, h1, h2, trivial⟩
theorem qH {g : PS → Co × PS} (hg : ∀ s, g8 (g s).1) (s : PS) : g8 (lF g s).1 := kx (P := g8) (sw 7) hg FU _ _ (hg s)
theorem k9 {g : PS → Co × PS} (hg : ∀ s, g8 (g s).1) (s : PS) : g8 (iZ g s).1 := kx (P := g8) (sw 8) (qH hg) FU _ _ (qH hg s)
theorem uT {g : PS → Co × PS} (hg : ∀ s, g8 (g s).1) (s : PS) : g8 (l6 g s).1 := by
  unfold l6
  simp only
  split
  · exact ⟨eR, l1, hg _, trivial⟩
  split
  · exact k9 hg _
  split
  · exact hU
  split
  · exact ⟨eR, l0, trivial⟩
  · exact ⟨⟨l2, eX _, eX _, trivial⟩, l0, trivial⟩
theorem m5 : ∀ (f : Nat) (s : PS), g8 (rc f s).1
  | 0, s => hU
  | f + 1, s => uT (m5 f) s
theorem kz (s : PS) : g8 (gL s).1 := k9 (m5 FU) s
theorem qC (s : PS) : g8 (fA s).1 := k9 (m5 FU) _
theorem vF (k : Nat) (a b : As) (h1 : i8 a) (h2 : i8 b) : i8 (.mk k coZ exZ exZ [] 0 [a, b]) := ⟨hU, ed, ed, l2, h1, h2, trivial⟩
theorem no {g : PS → As × PS} (hg : ∀ s, i8 (g s).1) (s : PS) : i8 (i0 g s).1 := kx (P := i8) (vF 4) hg FU _ _ (hg s)
theorem uG (s : PS) (b : Bool) : i8 (s.cell b).1 := by
  unfold PS.cell PS.place
  simp only
  split
  · exact ⟨hU, eX _, eX _, l0, trivial⟩
  · exact ⟨hU, eX _, ed, l0, trivial⟩
theorem uj {g : PS → As × PS} (hg : ∀ s, i8 (g s).1) (s : PS) : i8 (jk g s).1 := by
  unfold jk
  simp only
  split
  · exact iV
  split
  · exact ⟨qC _, ed, ed, l0, trivial⟩
  split
  · exact uG _ _
  split
  · exact ⟨kz _, ed, ed, l2, hg _, hg _, trivial⟩
  split
  · exact hg _
  · exact iV
theorem oe : ∀ (f : Nat) (s : PS), i8 (l4 f s).1
  | 0, s => iV
  | f + 1, s => uj (no (oe f)) s
theorem m3 (s : PS) : i8 (iX s).1 := no (oe FU) s
theorem pS (s : PS) : jT s.call.1 := ⟨ed, ed, hU, iV, nD _ _, nD _ _, l0, fP, fP⟩
theorem t6 (x : Wd) : ∀ t : St, jT t → jT (t.named x)
  | .mk k y f z e v c a rs gs fs b l, h => h
theorem lh (s : PS) : gF s.place.1 := eX s
theorem wI (s : PS) : jT s.set.1 := by
  unfold PS.set
  simp only
  split
  · exact ⟨lh _, ed, hU, iV, eR, eR, l0, fP, fP⟩
  split
  · exact ⟨ed, ed, hU, iV, eR, eR, nt _ _ _ _, fP, fP⟩
  split
  · exact t6 _ _ (pS _)
  · exact ⟨eX _, ed, hU, iV, eR, eR, l0, fP, fP⟩
theorem mC {g : PS → St × PS} (hg : ∀ s, jT (g s).1) : ∀ (f : Nat) (out : List St) (s : PS), (∀ a ∈ out, jT a) → (fe g f out s).1.length ≤ out.length + f ∧ ∀ a ∈ (fe g f out s).1, jT a
  | 0, out, s, h => ⟨Nat.le_refl _, h⟩
  | f + 1, out, s, h => by
    unfold fe; split
    · have := mC hg f (out ++ [(g s).1]) (g s).2 (fun a ha => by
        rcases List.mem_append.1 ha with ha | ha
        · exact h a ha
        · rw [List.mem_singleton.1 ha]; exact hg _)
      rw [List.length_append, List.length_singleton] at this
      exact ⟨by omega, this.2⟩
    · exact ⟨Nat.le_add_right _ _, h⟩
theorem mD {g : PS → St × PS} (hg : ∀ s, jT (g s).1) (s : PS) : (g5 g s).1.length ≤ Lim ∧ jl (g5 g s).1 := by
  have := mC hg FU [] (s.open' [123]) (fun a ha => absurd ha List.not_mem_nil)
  refine ⟨?_, pU this.2⟩
  have h1 := this.1
  rw [List.length_nil] at h1
  refine Nat.le_trans h1 ?_
  simp only [FU, Lim]
  omega
theorem t8 {g : PS → List St × PS} (hg : ∀ s, (g s).1.length ≤ Lim ∧ jl (g s).1) (s : PS) : jT (il g s).1 := by
  unfold il
  simp only
  split
  · exact wr
  split
  · exact ⟨lh _, eX _, hU, iV, eR, eR, l0, fP, fP⟩
  split
  · exact ⟨lh _, ed, hU, iV, eR, eR, l0, fP, fP⟩
  split
  · exact ⟨ed, ed, kz _, iV, eR, eR, l0, fP, fP⟩
  split
  · exact pS _
  split
  · exact wI _
  split
  · exact ⟨ed, ed, kz _, iV, eR, eR, l0, hg _, hg _⟩
  split
  · exact ⟨ed, ed, kz _, m3 _, eR, eR, l0, hg _, fP⟩
  · exact wr
theorem nU : ∀ (f : Nat) (s : PS), jT (lC f s).1
  | 0, s => wr
  | f + 1, s => t8 (mD (nU f)) s
theorem oj (s : PS) : (gZ s).1.length ≤ Lim ∧ jl (gZ s).1 := mD (nU FU) s
theorem vl (s : PS) : vY s.proc.1 := by
  unfold PS.proc
  exact ⟨nA _ _, nA _ _, m3 _, m3 _, (oj _).1, (oj _).2⟩
theorem l9 : ∀ (f : Nat) (out : List Pc) (s : PS), (∀ a ∈ out, vY a) → (dL f out s).1.length ≤ out.length + f ∧ ∀ a ∈ (dL f out s).1, vY a
  | 0, out, s, h => ⟨Nat.le_refl _, h⟩
  | f + 1, out, s, h => by
    unfold dL; split
    · have := l9 f (out ++ [s.proc.1]) s.proc.2 (fun a ha => by
        rcases List.mem_append.1 ha with ha | ha
        · exact h a ha
        · rw [List.mem_singleton.1 ha]; exact vl _)
      rw [List.length_append, List.length_singleton] at this
      exact ⟨by omega, this.2⟩
    · exact ⟨Nat.le_add_right _ _, h⟩
theorem tM (l : Wd) : (dG l).1.length ≤ Lim ∧ ∀ p ∈ (dG l).1, vY p := by
  have := l9 FU [] (eS l) (fun a ha => absurd ha List.not_mem_nil)
  refine ⟨?_, this.2⟩
  have h1 := this.1
  rw [List.length_nil] at h1
  refine Nat.le_trans h1 ?_
  simp only [FU, Lim]
  omega
end Go.Proofs.YtpkcgdikbjaoaaaGreatDoor

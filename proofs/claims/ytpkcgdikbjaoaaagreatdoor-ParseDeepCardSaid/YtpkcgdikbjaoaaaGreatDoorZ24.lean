/- The document's reader in K: tokens. -/
import Derived.Test.YtpkcgdikbjaoaaaGreatDoorZ12
namespace Go.Proofs.YtpkcgdikbjaoaaaGreatDoor
set_option linter.unusedSimpArgs false
set_option linter.unusedVariables false
open Go.RowKit
structure RS where
  l : List Tok
  end0 : Int
  i : Nat
  depth : Int
  bad : Nat
  at0 : Int
  ok : ∀ t ∈ l, jW t
  short : l.length ≤ 65536
  hi : i ≤ l.length
abbrev rA (r : RS) : AV := .bc [.sl (r.l.flatMap ee) r.l.length .none, inA r.end0, inA (r.i : Int), inA r.depth, inA (r.bad : Int), inA r.at0] 64
def RS.tok (r : RS) : Option Tok := r.l[r.i]?
def RS.next (r : RS) : Wd := match r.bad, r.tok with
  | 0, some t => if t.kind = 1 ∨ t.kind = 3 then [] else t.text
  | _, _ => []
def RS.kind (r : RS) : Nat := match r.bad, r.tok with
  | 0, some t => t.kind
  | _, _ => 0
def RS.place (r : RS) : Int := match r.tok with
  | some t => (t.at0 : Int)
  | none => r.end0
def RS.amiss (r : RS) (e : Nat) : RS := match r.bad with
  | 0 => { r with bad := e, at0 := r.place }
  | _ => r
def RS.bump (r : RS) : RS := if h : r.i < r.l.length then { r with i := r.i + 1, hi := h } else r
def RS.eat (r : RS) (w : Wd) : RS := if r.next = w then r.bump else r.amiss 11
def RS.down (r : RS) : RS := { r with depth := IntKind.i64.wrap (r.depth + 1) }
def RS.up (r : RS) : RS := { r with depth := IntKind.i64.wrap (r.depth - 1) }
def RS.deeper (r : RS) : RS := (if r.depth = 50 then r.amiss 4 else r).down
def RS.begin (r : RS) (w : Wd) : RS := (if r.next = w then r.deeper else r).eat w
def RS.finish (r : RS) (w : Wd) : RS := (r.eat w).up
def RS.text (r : RS) (k : Nat) : Wd × RS := if r.kind = k then ((r.tok.getD jp).text, r.bump) else ([], r.amiss 11)
theorem eY {r : RS} {t : Tok} (h : r.tok = some t) : ∃ hi : r.i < r.l.length, r.l[r.i] = t := by
  unfold RS.tok at h
  exact List.getElem?_eq_some_iff.1 h
theorem ma {r : RS} (h : r.tok = none) : r.i = r.l.length := by
  unfold RS.tok at h
  have := List.getElem?_eq_none_iff.1 h
  have := r.hi
  omega
theorem cA {r : RS} {w : Wd} (hw : w ≠ []) (h : r.next = w) : r.bad = 0 ∧ ∃ t, r.tok = some t ∧ t.text = w ∧ ¬ (t.kind = 1 ∨ t.kind = 3) := by
  unfold RS.next at h
  split at h
  · rename_i t h1 h2
    split at h
    · exact absurd h.symm hw
    · rename_i h3; exact ⟨h1, t, h2, h, h3⟩
  · exact absurd h.symm hw
theorem jb {r : RS} {k : Nat} (hk : k ≠ 0) (h : r.kind = k) : r.bad = 0 ∧ ∃ t, r.tok = some t ∧ t.kind = k := by
  unfold RS.kind at h
  split at h
  · rename_i t h1 h2; exact ⟨h1, t, h2, h⟩
  · exact absurd h.symm hk
def bv : Nat → List Nat
  | 0 => [0]
  | 1 => [0]
  | 2 => []
  | 3 => [0]
  | _ => []
set_option maxRecDepth 100000 in
set_option maxHeartbeats 4000000 in
theorem eB (r : RS) : AFn Tryz.prog 39 [.loc 20000 0] [rA r] (bs r.next) [rA r] := by
  refine aK [] Tryz.func39 rfl Tryz.ntmps39 (Nat.le_of_ble_eq_true rfl) (Nat.le_of_ble_eq_true rfl) fun w0 G0 B0 Pr hB0 => ?_
  simp only [aQ, aI, List.cons_append, List.nil_append, rA]
  obtain ⟨l, e0, i, d, bad, a0, ok, sh, hi⟩ := r
  cases bad with
  | succ n =>
    have hb : ((n : Int) + 1 = 0) = False := eq_false (by omega)
    repeat' (first | (with_reducible refine hY _ ?_; clear hY Y) | ((with_reducible first | refine av rfl (aD fun K' hK' => ab ?_) | refine hK' _ (ac fun Y hY => ab ?_) | refine ac fun Y hY => ab ?_ | refine ae tk0 bv (ac fun Y hY => ab ?_) | refine ab ?_ | refine ap ?_ | refine bY rfl (bI fun K' hK' => ab ?_) | refine hK' _ _ (ac fun Y hY => ab ?_) | refine cJ rfl (ac fun Y hY => ab ?_)); (try clear hK' K'); (try dsimp only [aop]); try simp only [go_sem, ↓reduceIte, Nat.reduceEqDiff, Nat.reduceLT, Nat.reduceLeDiff, Nat.reduceAdd, Nat.reduceSub, Nat.reduceMul, Nat.reduceBEq, Nat.reduceBNe, Nat.reducePow, Int.reduceToNat, Int.reduceLE, Int.reduceLT, Int.reduceMul, Int.reduceEq, Int.reducePow, Int.reduceAdd, Int.reduceSub, Int.reduceNeg, reduceCtorEq, bv, Tryz.results39, hb]) | (with_reducible first | refine ai ?_ | refine bj rfl ?_ | refine dk ?_ ?_ | refine al ?_ | refine am ?_ | refine aL fun K hK => ?_ | refine ax ?_ | refine bg ?_ | refine az ?_ | refine bl ?_ | refine dq fun K hK => ?_) | (with_reducible refine hK _ ?_; clear hK K) | (with_reducible refine hK _ _ ?_ ?_; (· kernel_rfl); clear hK K) | ((with_reducible first | refine aR ?_ ?_ | refine ah ?_ ?_); (· decide)) | (with_reducible refine bm tk0 bv ?_ ?_; (· kernel_rfl)))
    all_goals first | rfl | exact ⟨rfl, rfl⟩
  | zero =>
    cases ht : RS.tok ⟨l, e0, i, d, 0, a0, ok, sh, hi⟩ with
    | none =>
      have := ma ht
      simp only at this
      have hle' : ((l.length : Int) ≤ (i : Int)) = True := eq_true (by omega)
      have e : RS.next ⟨l, e0, i, d, 0, a0, ok, sh, hi⟩ = [] := by unfold RS.next; rw [ht]; rfl
      rw [e]
      repeat' (first | (with_reducible refine hY _ ?_; clear hY Y) | ((with_reducible first | refine av rfl (aD fun K' hK' => ab ?_) | refine hK' _ (ac fun Y hY => ab ?_) | refine ac fun Y hY => ab ?_ | refine ae tk0 bv (ac fun Y hY => ab ?_) | refine ab ?_ | refine ap ?_ | refine bY rfl (bI fun K' hK' => ab ?_) | refine hK' _ _ (ac fun Y hY => ab ?_) | refine cJ rfl (ac fun Y hY => ab ?_) | refine bI fun K' hK' => ab ?_); (try clear hK' K'); (try dsimp only [aop]); try simp only [go_sem, ↓reduceIte, Nat.reduceEqDiff, Nat.reduceLT, Nat.reduceLeDiff, Nat.reduceAdd, Nat.reduceSub, Nat.reduceMul, Nat.reduceBEq, Nat.reduceBNe, Nat.reducePow, Int.reduceToNat, Int.reduceLE, Int.reduceLT, Int.reduceMul, Int.reduceEq, Int.reducePow, Int.reduceAdd, Int.reduceSub, Int.reduceNeg, reduceCtorEq, bv, Tryz.results39, hle']) | (with_reducible first | refine ai ?_ | refine bj rfl ?_ | refine aS ?_ | refine dk ?_ ?_ | refine al ?_ | refine am ?_ | refine aL fun K hK => ?_ | refine ax ?_ | refine bg ?_ | refine az ?_ | refine bl ?_ | refine dq fun K hK => ?_) | (with_reducible refine hK _ ?_; clear hK K) | (with_reducible refine hK _ _ ?_ ?_; (· kernel_rfl); clear hK K) | ((with_reducible first | refine aR ?_ ?_ | refine ah ?_ ?_); (· decide)) | (with_reducible refine bm tk0 bv ?_ ?_; (· kernel_rfl)) | ((with_reducible refine bK (fun hc => ?_) (fun hc => ?_)) <;> (try simp only [decide_eq_true_eq, decide_eq_false_iff_not, Bool.not_true, Bool.not_false, Bool.not_eq_true', Bool.not_eq_false'] at hc) <;> (try (exfalso; omega))))
      all_goals first | rfl | exact ⟨rfl, rfl⟩
    | some t =>
      have e : RS.next ⟨l, e0, i, d, 0, a0, ok, sh, hi⟩ = if t.kind = 1 ∨ t.kind = 3 then [] else t.text := by unfold RS.next; rw [ht]; rfl
      rw [e]
      obtain ⟨hlt, hti2⟩ := eY ht
      simp only at hlt hti2
      have hti : ∃ h : i < l.length, l[i] = t := ⟨hlt, hti2⟩
      clear e ht
      obtain ⟨kd, p0, tx⟩ := t
      have hlt' : ((i : Int) < (l.length : Int)) = True := eq_true (by omega)
      have hle' : ((l.length : Int) ≤ (i : Int)) = False := eq_false (by omega)
      have hfl := fH (f := ee) (k := 3) (fun _ => rfl) l
      have hg0 := tm (f := ee) (k := 3) (fun _ => rfl) hlt (by decide)
      have hg2 := ja (f := ee) (k := 3) (fun _ => rfl) hlt 2 (by decide)
      rw [hti2] at hg0 hg2
      repeat' (first | (with_reducible refine hY _ ?_; clear hY Y) | ((with_reducible first | refine av rfl (aD fun K' hK' => ab ?_) | refine hK' _ (ac fun Y hY => ab ?_) | refine ac fun Y hY => ab ?_ | refine ae tk0 bv (ac fun Y hY => ab ?_) | refine ab ?_ | refine ap ?_ | refine bY rfl (bI fun K' hK' => ab ?_) | refine hK' _ _ (ac fun Y hY => ab ?_) | refine cJ rfl (ac fun Y hY => ab ?_) | refine bI fun K' hK' => ab ?_); (try clear hK' K'); (try dsimp only [aop]); try simp only [go_sem, ↓reduceIte, Nat.reduceEqDiff, Nat.reduceLT, Nat.reduceLeDiff, Nat.reduceAdd, Nat.reduceSub, Nat.reduceMul, Nat.reduceBEq, Nat.reduceBNe, Nat.reducePow, Int.reduceToNat, Int.reduceLE, Int.reduceLT, Int.reduceMul, Int.reduceEq, Int.reducePow, Int.reduceAdd, Int.reduceSub, Int.reduceNeg, reduceCtorEq, bv, Tryz.results39, hlt', hle', hfl, hg0, hg2]) | (with_reducible first | refine ai ?_ | refine bj rfl ?_ | refine aS ?_ | refine dk ?_ ?_ | refine al ?_ | refine am ?_ | refine aL fun K hK => ?_ | refine ax ?_ | refine bg ?_ | refine aC ?_ | refine az ?_ | refine bl ?_ | refine dq fun K hK => ?_) | (with_reducible refine hK _ ?_; clear hK K) | (with_reducible refine hK _ _ ?_ ?_; (· kernel_rfl); clear hK K) | ((with_reducible first | refine aR ?_ ?_ | refine ah ?_ ?_); (· decide)) | (with_reducible refine bm tk0 bv ?_ ?_; (· kernel_rfl)) | ((with_reducible first | refine bK (fun hc => ?_) (fun hc => ?_) | refine bV (fun hc => ?_) (fun hc => ?_)) <;> (try simp only [decide_eq_true_eq, decide_eq_false_iff_not, Bool.not_true, Bool.not_false, Bool.not_eq_true', Bool.not_eq_false'] at hc) <;> (try (exfalso; omega))) | (with_reducible refine bQ ?_ ?_; (· (try and_intros) <;> first | omega | assumption | (simp only [List.length_append, List.length_map, List.length_cons, List.length_nil] <;> omega))))
      all_goals first
        | (rw [if_pos (by omega)])
        | (rw [if_neg (by omega)])
def bw : Nat → List Nat
  | 0 => [0]
  | 1 => [0]
  | 2 => []
  | 3 => [0]
  | _ => []
set_option maxRecDepth 100000 in
set_option maxHeartbeats 4000000 in
theorem my (r : RS) : AFn Tryz.prog 41 [.loc 20000 0] [rA r] (inA (r.kind : Int)) [rA r] := by
  refine aK [] Tryz.func41 rfl Tryz.ntmps41 (Nat.le_of_ble_eq_true rfl) (Nat.le_of_ble_eq_true rfl) fun w0 G0 B0 Pr hB0 => ?_
  simp only [aQ, aI, List.cons_append, List.nil_append, rA]
  obtain ⟨l, e0, i, d, bad, a0, ok, sh, hi⟩ := r
  cases bad with
  | succ n =>
    have hb : ((n : Int) + 1 = 0) = False := eq_false (by omega)
    repeat' (first | (with_reducible refine hY _ ?_; clear hY Y) | ((with_reducible first | refine av rfl (aD fun K' hK' => ab ?_) | refine hK' _ (ac fun Y hY => ab ?_) | refine ac fun Y hY => ab ?_ | refine ae tk0 bw (ac fun Y hY => ab ?_) | refine ab ?_ | refine ap ?_ | refine bY rfl (bI fun K' hK' => ab ?_) | refine hK' _ _ (ac fun Y hY => ab ?_) | refine cJ rfl (ac fun Y hY => ab ?_)); (try clear hK' K'); (try dsimp only [aop]); try simp only [go_sem, ↓reduceIte, Nat.reduceEqDiff, Nat.reduceLT, Nat.reduceLeDiff, Nat.reduceAdd, Nat.reduceSub, Nat.reduceMul, Nat.reduceBEq, Nat.reduceBNe, Nat.reducePow, Int.reduceToNat, Int.reduceLE, Int.reduceLT, Int.reduceMul, Int.reduceEq, Int.reducePow, Int.reduceAdd, Int.reduceSub, Int.reduceNeg, reduceCtorEq, bw, Tryz.results41, hb]) | (with_reducible first | refine ai ?_ | refine bj rfl ?_ | refine dk ?_ ?_ | refine al ?_ | refine am ?_ | refine aL fun K hK => ?_ | refine ax ?_ | refine bg ?_ | refine az ?_ | refine bl ?_ | refine dq fun K hK => ?_) | (with_reducible refine hK _ ?_; clear hK K) | (with_reducible refine hK _ _ ?_ ?_; (· kernel_rfl); clear hK K) | ((with_reducible first | refine aR ?_ ?_ | refine ah ?_ ?_); (· decide)) | (with_reducible refine bm tk0 bw ?_ ?_; (· kernel_rfl)))
    all_goals first | rfl | exact ⟨rfl, rfl⟩
  | zero =>
    cases ht : RS.tok ⟨l, e0, i, d, 0, a0, ok, sh, hi⟩ with
    | none =>
      have := ma ht
      simp only at this
      have hle' : ((l.length : Int) ≤ (i : Int)) = True := eq_true (by omega)
      have e : RS.kind ⟨l, e0, i, d, 0, a0, ok, sh, hi⟩ = 0 := by unfold RS.kind; rw [ht]; rfl
      rw [e]
      repeat' (first | (with_reducible refine hY _ ?_; clear hY Y) | ((with_reducible first | refine av rfl (aD fun K' hK' => ab ?_) | refine hK' _ (ac fun Y hY => ab ?_) | refine ac fun Y hY => ab ?_ | refine ae tk0 bw (ac fun Y hY => ab ?_) | refine ab ?_ | refine ap ?_ | refine bY rfl (bI fun K' hK' => ab ?_) | refine hK' _ _ (ac fun Y hY => ab ?_) | refine cJ rfl (ac fun Y hY => ab ?_) | refine bI fun K' hK' => ab ?_); (try clear hK' K'); (try dsimp only [aop]); try simp only [go_sem, ↓reduceIte, Nat.reduceEqDiff, Nat.reduceLT, Nat.reduceLeDiff, Nat.reduceAdd, Nat.reduceSub, Nat.reduceMul, Nat.reduceBEq, Nat.reduceBNe, Nat.reducePow, Int.reduceToNat, Int.reduceLE, Int.reduceLT, Int.reduceMul, Int.reduceEq, Int.reducePow, Int.reduceAdd, Int.reduceSub, Int.reduceNeg, reduceCtorEq, bw, Tryz.results41, hle']) | (with_reducible first | refine ai ?_ | refine aS ?_ | refine al ?_ | refine am ?_ | refine aL fun K hK => ?_ | refine ax ?_ | refine bg ?_ | refine az ?_ | refine bl ?_ | refine dq fun K hK => ?_) | (with_reducible refine hK _ ?_; clear hK K) | (with_reducible refine hK _ _ ?_ ?_; (· kernel_rfl); clear hK K) | ((with_reducible first | refine aR ?_ ?_ | refine ah ?_ ?_); (· decide)) | (with_reducible refine bm tk0 bw ?_ ?_; (· kernel_rfl)) | ((with_reducible refine bK (fun hc => ?_) (fun hc => ?_)) <;> (try simp only [decide_eq_true_eq, decide_eq_false_iff_not, Bool.not_true, Bool.not_false, Bool.not_eq_true', Bool.not_eq_false'] at hc) <;> (try (exfalso; omega))))
      all_goals first | rfl | exact ⟨rfl, rfl⟩
    | some t =>
      have e : RS.kind ⟨l, e0, i, d, 0, a0, ok, sh, hi⟩ = t.kind := by unfold RS.kind; rw [ht]; rfl
      rw [e]
      obtain ⟨hlt, hti2⟩ := eY ht
      simp only at hlt hti2
      clear e ht
      have hlt' : ((i : Int) < (l.length : Int)) = True := eq_true (by omega)
      have hle' : ((l.length : Int) ≤ (i : Int)) = False := eq_false (by omega)
      have hfl := fH (f := ee) (k := 3) (fun _ => rfl) l
      have hg0 := tm (f := ee) (k := 3) (fun _ => rfl) hlt (by decide)
      rw [hti2] at hg0
      repeat' (first | (with_reducible refine hY _ ?_; clear hY Y) | ((with_reducible first | refine av rfl (aD fun K' hK' => ab ?_) | refine hK' _ (ac fun Y hY => ab ?_) | refine ac fun Y hY => ab ?_ | refine ae tk0 bw (ac fun Y hY => ab ?_) | refine ab ?_ | refine ap ?_ | refine bY rfl (bI fun K' hK' => ab ?_) | refine hK' _ _ (ac fun Y hY => ab ?_) | refine cJ rfl (ac fun Y hY => ab ?_) | refine bI fun K' hK' => ab ?_); (try clear hK' K'); (try dsimp only [aop]); try simp only [go_sem, ↓reduceIte, Nat.reduceEqDiff, Nat.reduceLT, Nat.reduceLeDiff, Nat.reduceAdd, Nat.reduceSub, Nat.reduceMul, Nat.reduceBEq, Nat.reduceBNe, Nat.reducePow, Int.reduceToNat, Int.reduceLE, Int.reduceLT, Int.reduceMul, Int.reduceEq, Int.reducePow, Int.reduceAdd, Int.reduceSub, Int.reduceNeg, reduceCtorEq, bw, Tryz.results41, hlt', hle', hfl, hg0]) | (with_reducible first | refine ai ?_ | refine aS ?_ | refine al ?_ | refine am ?_ | refine aL fun K hK => ?_ | refine ar ?_ | refine aC ?_ | refine az ?_ | refine bl ?_ | refine dq fun K hK => ?_) | (with_reducible refine hK _ ?_; clear hK K) | (with_reducible refine hK _ _ ?_ ?_; (· kernel_rfl); clear hK K) | ((with_reducible first | refine aR ?_ ?_ | refine ah ?_ ?_); (· decide)) | (with_reducible refine bm tk0 bw ?_ ?_; (· kernel_rfl)) | ((with_reducible refine bK (fun hc => ?_) (fun hc => ?_)) <;> (try simp only [decide_eq_true_eq, decide_eq_false_iff_not, Bool.not_true, Bool.not_false, Bool.not_eq_true', Bool.not_eq_false'] at hc) <;> (try (exfalso; omega))) | (with_reducible refine bQ ?_ ?_; (· (try and_intros) <;> first | omega | assumption | (simp only [List.length_append, List.length_map, List.length_cons, List.length_nil] <;> omega))))
      all_goals first | rfl | exact ⟨rfl, rfl⟩
def bD : Nat → List Nat
  | 0 => [0, 1]
  | 1 => [0, 1]
  | 2 => [0]
  | 3 => [0]
  | 4 => [0]
  | _ => []
set_option maxRecDepth 100000 in
set_option maxHeartbeats 4000000 in
theorem iw (r : RS) (e : Nat) : AFn Tryz.prog 40 [.loc 20000 0, inA (e : Int)] [rA r] (.tup []) [rA (r.amiss e)] := by
  refine aK [] Tryz.func40 rfl Tryz.ntmps40 (Nat.le_of_ble_eq_true rfl) (Nat.le_of_ble_eq_true rfl) fun w0 G0 B0 Pr hB0 => ?_
  simp only [aQ, aI, List.cons_append, List.nil_append, rA]
  obtain ⟨l, e0, i, d, bad, a0, ok, sh, hi⟩ := r
  cases bad with
  | succ n =>
    have hb : ((n : Int) + 1 = 0) = False := eq_false (by omega)
    repeat' (first | (with_reducible refine hY _ ?_; clear hY Y) | ((with_reducible first | refine av rfl (aD fun K' hK' => ab ?_) | refine hK' _ (ac fun Y hY => ab ?_) | refine ac fun Y hY => ab ?_ | refine ae tk0 bD (ac fun Y hY => ab ?_) | refine ab ?_ | refine ap ?_); (try clear hK' K'); (try dsimp only [aop]); try simp only [go_sem, ↓reduceIte, Nat.reduceEqDiff, Nat.reduceLT, Nat.reduceLeDiff, Nat.reduceAdd, Nat.reduceSub, Nat.reduceMul, Nat.reduceBEq, Nat.reduceBNe, Nat.reducePow, Int.reduceToNat, Int.reduceLE, Int.reduceLT, Int.reduceMul, Int.reduceEq, Int.reducePow, Int.reduceAdd, Int.reduceSub, Int.reduceNeg, reduceCtorEq, bD, Tryz.results40, hb]) | (with_reducible first | refine ai ?_ | refine al ?_ | refine am ?_ | refine aL fun K hK => ?_ | refine bg ?_ | refine az ?_) | (with_reducible refine hK _ ?_; clear hK K) | ((with_reducible refine ah ?_ ?_); (· decide)) | ((with_reducible refine bV (fun hc => ?_) (fun hc => ?_)) <;> (try simp only [decide_eq_true_eq, decide_eq_false_iff_not, Bool.not_true, Bool.not_false, Bool.not_eq_true', Bool.not_eq_false'] at hc) <;> (try (exfalso; omega))))
    all_goals first | rfl | exact ⟨rfl, rfl⟩
  | zero =>
    unfold RS.amiss RS.place
    cases ht : RS.tok ⟨l, e0, i, d, 0, a0, ok, sh, hi⟩ with
    | none =>
      have := ma ht
      simp only at this
      have hlt' : ((i : Int) < (l.length : Int)) = False := eq_false (by omega)
      repeat' (first | (with_reducible refine hY _ ?_; clear hY Y) | ((with_reducible first | refine av rfl (aD fun K' hK' => ab ?_) | refine hK' _ (ac fun Y hY => ab ?_) | refine ac fun Y hY => ab ?_ | refine ae tk0 bD (ac fun Y hY => ab ?_) | refine ab ?_ | refine bY rfl (bI fun K' hK' => ab ?_) | refine hK' _ _ (ac fun Y hY => ab ?_) | refine bX ?_); (try clear hK' K'); (try dsimp only [aop]); try simp only [go_sem, ↓reduceIte, Nat.reduceEqDiff, Nat.reduceLT, Nat.reduceLeDiff, Nat.reduceAdd, Nat.reduceSub, Nat.reduceMul, Nat.reduceBEq, Nat.reduceBNe, Nat.reducePow, Int.reduceToNat, Int.reduceLE, Int.reduceLT, Int.reduceMul, Int.reduceEq, Int.reducePow, Int.reduceAdd, Int.reduceSub, Int.reduceNeg, reduceCtorEq, bD, Tryz.results40, hlt']) | (with_reducible first | refine ai ?_ | refine al ?_ | refine am ?_ | refine aL fun K hK => ?_ | refine ar ?_ | refine aC ?_ | refine bl ?_ | refine dq fun K hK => ?_) | (with_reducible refine hK _ ?_; clear hK K) | (with_reducible refine hK _ _ ?_ ?_; (· kernel_rfl); clear hK K) | ((with_reducible refine ah ?_ ?_); (· decide)) | (with_reducible refine bm tk0 bD ?_ ?_; (· kernel_rfl)) | ((with_reducible refine bV (fun hc => ?_) (fun hc => ?_)) <;> (try simp only [decide_eq_true_eq, decide_eq_false_iff_not, Bool.not_true, Bool.not_false, Bool.not_eq_true', Bool.not_eq_false'] at hc) <;> (try (exfalso; omega))))
      all_goals first | rfl | exact ⟨rfl, rfl⟩
    | some t =>
      obtain ⟨hlt, hti2⟩ := eY ht
      simp only at hlt hti2
      clear ht
      have hlt' : ((i : Int) < (l.length : Int)) = True := eq_true (by omega)
      have hfl := fH (f := ee) (k := 3) (fun _ => rfl) l
      have hg1 := ja (f := ee) (k := 3) (fun _ => rfl) hlt 1 (by decide)
      rw [hti2] at hg1
      repeat' (first | (with_reducible refine hY _ ?_; clear hY Y) | ((with_reducible first | refine av rfl (aD fun K' hK' => ab ?_) | refine hK' _ (ac fun Y hY => ab ?_) | refine ac fun Y hY => ab ?_ | refine ae tk0 bD (ac fun Y hY => ab ?_) | refine ab ?_ | refine bY rfl (bI fun K' hK' => ab ?_) | refine hK' _ _ (ac fun Y hY => ab ?_) | refine bX ?_); (try clear hK' K'); (try dsimp only [aop]); try simp only [go_sem, ↓reduceIte, Nat.reduceEqDiff, Nat.reduceLT, Nat.reduceLeDiff, Nat.reduceAdd, Nat.reduceSub, Nat.reduceMul, Nat.reduceBEq, Nat.reduceBNe, Nat.reducePow, Int.reduceToNat, Int.reduceLE, Int.reduceLT, Int.reduceMul, Int.reduceEq, Int.reducePow, Int.reduceAdd, Int.reduceSub, Int.reduceNeg, reduceCtorEq, bD, Tryz.results40, hlt', hfl, hg1]) | (with_reducible first | refine ai ?_ | refine al ?_ | refine am ?_ | refine aL fun K hK => ?_ | refine ax ?_ | refine aC ?_ | refine bl ?_ | refine dq fun K hK => ?_) | (with_reducible refine hK _ ?_; clear hK K) | (with_reducible refine hK _ _ ?_ ?_; (· kernel_rfl); clear hK K) | ((with_reducible refine ah ?_ ?_); (· decide)) | (with_reducible refine bm tk0 bD ?_ ?_; (· kernel_rfl)) | ((with_reducible refine bV (fun hc => ?_) (fun hc => ?_)) <;> (try simp only [decide_eq_true_eq, decide_eq_false_iff_not, Bool.not_true, Bool.not_false, Bool.not_eq_true', Bool.not_eq_false'] at hc) <;> (try (exfalso; omega))) | (with_reducible refine bQ ?_ ?_; (· (try and_intros) <;> first | omega | assumption | (simp only [List.length_append, List.length_map, List.length_cons, List.length_nil] <;> omega))))
      all_goals first | rfl | exact ⟨rfl, rfl⟩
theorem cU {r : RS} {t : Tok} (h : r.tok = some t) : rA r.bump = .bc [.sl (r.l.flatMap ee) r.l.length .none, inA r.end0, inA ((r.i + 1 : Nat) : Int), inA r.depth, inA (r.bad : Int), inA r.at0] 64 := by
  obtain ⟨h1, _⟩ := eY h
  unfold RS.bump
  rw [dif_pos h1]
def cM : Nat → List Nat
  | 0 => [0, 1]
  | 1 => [0]
  | 2 => [0]
  | _ => []
set_option maxRecDepth 100000 in
set_option maxHeartbeats 4000000 in
theorem dm (r : RS) (w : Wd) (hw : w ≠ []) : AFn Tryz.prog 14 [.loc 20000 0, bs w] [rA r] (.tup []) [rA (r.eat w)] := by
  have h1 := eB r
  have h2 := iw r 11
  unfold RS.eat
  by_cases h : r.next = w
  · rw [if_pos h]
    obtain ⟨hb, t, ht, _⟩ := cA hw h
    have hbe := cU ht
    have hi := (eY ht).1
    have hs := r.short
    have hkw : IntKind.i64.wrap ((r.i : Int) + 1) = ((r.i + 1 : Nat) : Int) := by rw [bO (by omega) (by omega)]; rfl
    rw [hbe]
    rw [h] at h1
    have hne : (w == w) = true := by simp
    refine aK [] Tryz.func14 rfl Tryz.ntmps14 (Nat.le_of_ble_eq_true rfl) (Nat.le_of_ble_eq_true rfl) fun w0 G0 B0 Pr hB0 => ?_
    simp only [aQ, aI, List.cons_append, List.nil_append]
    repeat' (first | (with_reducible refine hY _ ?_; clear hY Y) | ((with_reducible first | refine av rfl (aD fun K' hK' => ab ?_) | refine hK' _ (ac fun Y hY => ab ?_) | refine ac fun Y hY => ab ?_ | refine ae tk0 cM (ac fun Y hY => ab ?_) | refine ab ?_ | refine bX ?_); (try clear hK' K'); (try dsimp only [aop]); try simp only [go_sem, ↓reduceIte, Nat.reduceEqDiff, Nat.reduceLT, Nat.reduceLeDiff, Nat.reduceAdd, Nat.reduceSub, Nat.reduceMul, Nat.reduceBEq, Nat.reduceBNe, Nat.reducePow, Int.reduceToNat, Int.reduceLE, Int.reduceLT, Int.reduceMul, Int.reduceEq, Int.reducePow, Int.reduceAdd, Int.reduceSub, Int.reduceNeg, reduceCtorEq, cM, Tryz.results14, hne, hkw]) | (with_reducible first | refine ai ?_ | refine al ?_ | refine am ?_ | refine aL fun K hK => ?_ | refine ar ?_ | refine aC ?_) | (with_reducible refine hK _ ?_; clear hK K) | ((with_reducible refine ah ?_ ?_); (· decide)) | (with_reducible refine aa (h1) ?_) | (with_reducible refine be (aU _) ?_))
    all_goals first | rfl | exact ⟨rfl, rfl⟩
  · rw [if_neg h]
    have hne : (r.next == w) = false := by simpa using h
    generalize r.next = x at *
    refine aK [] Tryz.func14 rfl Tryz.ntmps14 (Nat.le_of_ble_eq_true rfl) (Nat.le_of_ble_eq_true rfl) fun w0 G0 B0 Pr hB0 => ?_
    simp only [aQ, aI, List.cons_append, List.nil_append]
    repeat' (first | (with_reducible refine hY _ ?_; clear hY Y) | ((with_reducible first | refine av rfl (aD fun K' hK' => ab ?_) | refine hK' _ (ac fun Y hY => ab ?_) | refine ac fun Y hY => ab ?_ | refine ae tk0 cM (ac fun Y hY => ab ?_) | refine ab ?_ | refine ap ?_); (try clear hK' K'); (try dsimp only [aop]); try simp only [go_sem, ↓reduceIte, Nat.reduceEqDiff, Nat.reduceLT, Nat.reduceLeDiff, Nat.reduceAdd, Nat.reduceSub, Nat.reduceMul, Nat.reduceBEq, Nat.reduceBNe, Nat.reducePow, Int.reduceToNat, Int.reduceLE, Int.reduceLT, Int.reduceMul, Int.reduceEq, Int.reducePow, Int.reduceAdd, Int.reduceSub, Int.reduceNeg, reduceCtorEq, cM, Tryz.results14, hne]) | (with_reducible first | refine ai ?_ | refine al ?_ | refine am ?_ | refine aL fun K hK => ?_ | refine ax ?_ | refine bg ?_ | refine az ?_) | (with_reducible refine hK _ ?_; clear hK K) | ((with_reducible refine ah ?_ ?_); (· decide)) | (with_reducible refine aa (h1) ?_) | (with_reducible refine aa (h2) ?_) | (with_reducible refine be (aU _) ?_))
def cH : Nat → List Nat
  | 0 => [0]
  | 1 => [0]
  | 2 => [0]
  | _ => []
set_option maxRecDepth 100000 in
set_option maxHeartbeats 4000000 in
theorem lY (r : RS) : AFn Tryz.prog 71 [.loc 20000 0] [rA r] (.tup []) [rA r.deeper] := by
  have h2 := iw r 4
  unfold RS.deeper
  refine aK [] Tryz.func71 rfl Tryz.ntmps71 (Nat.le_of_ble_eq_true rfl) (Nat.le_of_ble_eq_true rfl) fun w0 G0 B0 Pr hB0 => ?_
  simp only [aQ, aI, List.cons_append, List.nil_append]
  by_cases h : r.depth = 50
  · rw [if_pos h]
    generalize r.amiss 4 = r2 at *
    have h' : (r.depth = 50) = True := eq_true h
    repeat' (first | (with_reducible refine hY _ ?_; clear hY Y) | ((with_reducible first | refine av rfl (aD fun K' hK' => ab ?_) | refine hK' _ (ac fun Y hY => ab ?_) | refine ac fun Y hY => ab ?_ | refine ae tk0 cH (ac fun Y hY => ab ?_) | refine ab ?_ | refine bX ?_); (try clear hK' K'); (try dsimp only [aop]); try simp only [go_sem, ↓reduceIte, Nat.reduceEqDiff, Nat.reduceLT, Nat.reduceLeDiff, Nat.reduceAdd, Nat.reduceSub, Nat.reduceMul, Nat.reduceBEq, Nat.reduceBNe, Nat.reducePow, Int.reduceToNat, Int.reduceLE, Int.reduceLT, Int.reduceMul, Int.reduceEq, Int.reducePow, Int.reduceAdd, Int.reduceSub, Int.reduceNeg, reduceCtorEq, cH, Tryz.results71, h']) | (with_reducible first | refine ai ?_ | refine al ?_ | refine am ?_ | refine aL fun K hK => ?_ | refine ax ?_) | (with_reducible refine hK _ ?_; clear hK K) | ((with_reducible refine ah ?_ ?_); (· decide)) | (with_reducible refine aa (h2) ?_))
    all_goals first | rfl | exact ⟨rfl, rfl⟩
  · rw [if_neg h]
    have h' : (r.depth = 50) = False := eq_false h
    repeat' (first | (with_reducible refine hY _ ?_; clear hY Y) | ((with_reducible first | refine av rfl (aD fun K' hK' => ab ?_) | refine hK' _ (ac fun Y hY => ab ?_) | refine ac fun Y hY => ab ?_ | refine ae tk0 cH (ac fun Y hY => ab ?_) | refine ab ?_ | refine bX ?_); (try clear hK' K'); (try dsimp only [aop]); try simp only [go_sem, ↓reduceIte, Nat.reduceEqDiff, Nat.reduceLT, Nat.reduceLeDiff, Nat.reduceAdd, Nat.reduceSub, Nat.reduceMul, Nat.reduceBEq, Nat.reduceBNe, Nat.reducePow, Int.reduceToNat, Int.reduceLE, Int.reduceLT, Int.reduceMul, Int.reduceEq, Int.reducePow, Int.reduceAdd, Int.reduceSub, Int.reduceNeg, reduceCtorEq, cH, Tryz.results71, h']) | (with_reducible first | refine ai ?_ | refine al ?_ | refine am ?_ | refine aL fun K hK => ?_ | refine ar ?_ | refine aC ?_) | (with_reducible refine hK _ ?_; clear hK K) | ((with_reducible refine ah ?_ ?_); (· decide)))
    all_goals first | rfl | exact ⟨rfl, rfl⟩
def cI : Nat → List Nat
  | 0 => [0, 1]
  | 1 => [0, 1]
  | 2 => [0, 1]
  | _ => []
set_option maxRecDepth 100000 in
set_option maxHeartbeats 4000000 in
theorem gM (r : RS) (w : Wd) (hw : w ≠ []) : AFn Tryz.prog 43 [.loc 20000 0, bs w] [rA r] (.tup []) [rA (r.begin w)] := by
  have h1 := eB r
  have h2 := lY r
  unfold RS.begin
  by_cases h : r.next = w
  · rw [if_pos h]
    rw [h] at h1
    have h3 := dm r.deeper w hw
    have hne : (w == w) = true := by simp
    refine aK [] Tryz.func43 rfl Tryz.ntmps43 (Nat.le_of_ble_eq_true rfl) (Nat.le_of_ble_eq_true rfl) fun w0 G0 B0 Pr hB0 => ?_
    simp only [aQ, aI, List.cons_append, List.nil_append]
    repeat' (first | (with_reducible refine hY _ ?_; clear hY Y) | ((with_reducible first | refine av rfl (aD fun K' hK' => ab ?_) | refine hK' _ (ac fun Y hY => ab ?_) | refine ac fun Y hY => ab ?_ | refine ae tk0 cI (ac fun Y hY => ab ?_) | refine ab ?_ | refine bX ?_); (try clear hK' K'); (try dsimp only [aop]); try simp only [go_sem, ↓reduceIte, Nat.reduceEqDiff, Nat.reduceLT, Nat.reduceLeDiff, Nat.reduceAdd, Nat.reduceSub, Nat.reduceMul, Nat.reduceBEq, Nat.reduceBNe, Nat.reducePow, Int.reduceToNat, Int.reduceLE, Int.reduceLT, Int.reduceMul, Int.reduceEq, Int.reducePow, Int.reduceAdd, Int.reduceSub, Int.reduceNeg, reduceCtorEq, cI, Tryz.results43, hne]) | (with_reducible first | refine ai ?_ | refine al ?_ | refine am ?_ | refine aL fun K hK => ?_ | refine ax ?_) | (with_reducible refine hK _ ?_; clear hK K) | ((with_reducible refine ah ?_ ?_); (· decide)) | (with_reducible refine aa (h1) ?_) | (with_reducible refine aa (h2) ?_) | (with_reducible refine aa (h3) ?_) | (with_reducible refine be (aU _) ?_))
  · rw [if_neg h]
    have hne : (r.next == w) = false := by simpa using h
    have h3 := dm r w hw
    generalize r.next = x at *
    refine aK [] Tryz.func43 rfl Tryz.ntmps43 (Nat.le_of_ble_eq_true rfl) (Nat.le_of_ble_eq_true rfl) fun w0 G0 B0 Pr hB0 => ?_
    simp only [aQ, aI, List.cons_append, List.nil_append]
    repeat' (first | (with_reducible refine hY _ ?_; clear hY Y) | ((with_reducible first | refine av rfl (aD fun K' hK' => ab ?_) | refine hK' _ (ac fun Y hY => ab ?_) | refine ac fun Y hY => ab ?_ | refine ae tk0 cI (ac fun Y hY => ab ?_) | refine ab ?_ | refine bX ?_); (try clear hK' K'); (try dsimp only [aop]); try simp only [go_sem, ↓reduceIte, Nat.reduceEqDiff, Nat.reduceLT, Nat.reduceLeDiff, Nat.reduceAdd, Nat.reduceSub, Nat.reduceMul, Nat.reduceBEq, Nat.reduceBNe, Nat.reducePow, Int.reduceToNat, Int.reduceLE, Int.reduceLT, Int.reduceMul, Int.reduceEq, Int.reducePow, Int.reduceAdd, Int.reduceSub, Int.reduceNeg, reduceCtorEq, cI, Tryz.results43, hne]) | (with_reducible first | refine ai ?_ | refine al ?_ | refine am ?_ | refine aL fun K hK => ?_ | refine ar ?_ | refine aC ?_) | (with_reducible refine hK _ ?_; clear hK K) | ((with_reducible refine ah ?_ ?_); (· decide)) | (with_reducible refine aa (h1) ?_) | (with_reducible refine aa (h3) ?_) | (with_reducible refine be (aU _) ?_))
def dD : Nat → List Nat
  | 0 => [0, 1]
  | 1 => [0]
  | _ => []
set_option maxRecDepth 100000 in
set_option maxHeartbeats 4000000 in
theorem fO (r : RS) (w : Wd) (hw : w ≠ []) : AFn Tryz.prog 45 [.loc 20000 0, bs w] [rA r] (.tup []) [rA (r.finish w)] := by
  have h1 := dm r w hw
  unfold RS.finish
  generalize r.eat w = r1 at *
  refine aK [] Tryz.func45 rfl Tryz.ntmps45 (Nat.le_of_ble_eq_true rfl) (Nat.le_of_ble_eq_true rfl) fun w0 G0 B0 Pr hB0 => ?_
  simp only [aQ, aI, List.cons_append, List.nil_append]
  repeat' (first | (with_reducible refine hY _ ?_; clear hY Y) | ((with_reducible first | refine av rfl (aD fun K' hK' => ab ?_) | refine hK' _ (ac fun Y hY => ab ?_) | refine ae tk0 dD (ac fun Y hY => ab ?_) | refine ab ?_ | refine bX ?_); (try clear hK' K'); (try dsimp only [aop]); try simp only [go_sem, ↓reduceIte, Nat.reduceEqDiff, Nat.reduceLT, Nat.reduceLeDiff, Nat.reduceAdd, Nat.reduceSub, Nat.reduceMul, Nat.reduceBEq, Nat.reduceBNe, Nat.reducePow, Int.reduceToNat, Int.reduceLE, Int.reduceLT, Int.reduceMul, Int.reduceEq, Int.reducePow, Int.reduceAdd, Int.reduceSub, Int.reduceNeg, reduceCtorEq, dD, Tryz.results45]) | (with_reducible first | refine ai ?_ | refine al ?_ | refine am ?_ | refine aL fun K hK => ?_) | (with_reducible refine hK _ ?_; clear hK K) | (with_reducible refine aa (h1) ?_))
  all_goals first | rfl | exact ⟨rfl, rfl⟩
def cx : Nat → List Nat
  | 0 => [0, 1]
  | 1 => [0, 1]
  | 2 => [0]
  | 3 => []
  | 4 => [0]
  | 5 => [0]
  | _ => []
set_option maxRecDepth 100000 in
set_option maxHeartbeats 4000000 in
theorem fq (r : RS) (k : Nat) (hk : k ≠ 0) : AFn Tryz.prog 15 [.loc 20000 0, inA (k : Int)] [rA r] (bs (r.text k).1) [rA (r.text k).2] := by
  have h1 := my r
  have h2 := iw r 11
  unfold RS.text
  by_cases h : r.kind = k
  · rw [if_pos h]
    obtain ⟨hb, t, ht, _⟩ := jb hk h
    obtain ⟨hlt, hti⟩ := eY ht
    have hs := r.short
    have hbe := cU ht
    rw [ht]
    simp only [hbe, Option.getD_some]
    rw [h] at h1
    obtain ⟨l, e0, i, d, bad, a0, ok, sh, hi⟩ := r
    simp only at hlt hti hs
    clear hbe ht hb h
    have hkw : IntKind.i64.wrap ((i : Int) + 1) = ((i + 1 : Nat) : Int) := by rw [bO (by omega) (by omega)]; rfl
    have hkw2 : IntKind.i64.wrap (((i + 1 : Nat) : Int) - 1) = (i : Int) := by rw [bO (by omega) (by omega)]; omega
    have hlt' : ((i : Int) < (l.length : Int)) = True := eq_true (by omega)
    have hfl := fH (f := ee) (k := 3) (fun _ => rfl) l
    have hg2 := ja (f := ee) (k := 3) (fun _ => rfl) hlt 2 (by decide)
    rw [hti] at hg2
    refine aK [] Tryz.func15 rfl Tryz.ntmps15 (Nat.le_of_ble_eq_true rfl) (Nat.le_of_ble_eq_true rfl) fun w0 G0 B0 Pr hB0 => ?_
    simp only [aQ, aI, List.cons_append, List.nil_append]
    repeat' (first | (with_reducible refine hY _ ?_; clear hY Y) | ((with_reducible first | refine av rfl (aD fun K' hK' => ab ?_) | refine hK' _ (ac fun Y hY => ab ?_) | refine ac fun Y hY => ab ?_ | refine ae tk0 cx (ac fun Y hY => ab ?_) | refine ab ?_ | refine ap ?_ | refine bY rfl (bI fun K' hK' => ab ?_) | refine hK' _ _ (ac fun Y hY => ab ?_)); (try clear hK' K'); (try dsimp only [aop]); try simp only [go_sem, ↓reduceIte, Nat.reduceEqDiff, Nat.reduceLT, Nat.reduceLeDiff, Nat.reduceAdd, Nat.reduceSub, Nat.reduceMul, Nat.reduceBEq, Nat.reduceBNe, Nat.reducePow, Int.reduceToNat, Int.reduceLE, Int.reduceLT, Int.reduceMul, Int.reduceEq, Int.reducePow, Int.reduceAdd, Int.reduceSub, Int.reduceNeg, reduceCtorEq, cx, Tryz.results15, hkw, hkw2, hlt', hfl, hg2]) | (with_reducible first | refine ai ?_ | refine al ?_ | refine am ?_ | refine aL fun K hK => ?_ | refine ar ?_ | refine aC ?_ | refine az ?_ | refine bl ?_ | refine dq fun K hK => ?_) | (with_reducible refine hK _ ?_; clear hK K) | (with_reducible refine hK _ _ ?_ ?_; (· kernel_rfl); clear hK K) | ((with_reducible refine ah ?_ ?_); (· decide)) | (with_reducible refine bm tk0 cx ?_ ?_; (· kernel_rfl)) | (with_reducible refine bQ ?_ ?_; (· (try and_intros) <;> first | omega | assumption | (simp only [List.length_append, List.length_map, List.length_cons, List.length_nil] <;> omega))) | (with_reducible refine aa (h1) ?_))
    all_goals first | rfl | exact ⟨rfl, rfl⟩
  · rw [if_neg h]
    have h' : ((r.kind : Int) = (k : Int)) = False := eq_false (by omega)
    generalize r.kind = x at *
    refine aK [] Tryz.func15 rfl Tryz.ntmps15 (Nat.le_of_ble_eq_true rfl) (Nat.le_of_ble_eq_true rfl) fun w0 G0 B0 Pr hB0 => ?_
    simp only [aQ, aI, List.cons_append, List.nil_append]
    repeat' (first | (with_reducible refine hY _ ?_; clear hY Y) | ((with_reducible first | refine av rfl (aD fun K' hK' => ab ?_) | refine hK' _ (ac fun Y hY => ab ?_) | refine ac fun Y hY => ab ?_ | refine ae tk0 cx (ac fun Y hY => ab ?_) | refine ab ?_ | refine ap ?_); (try clear hK' K'); (try dsimp only [aop]); try simp only [go_sem, ↓reduceIte, Nat.reduceEqDiff, Nat.reduceLT, Nat.reduceLeDiff, Nat.reduceAdd, Nat.reduceSub, Nat.reduceMul, Nat.reduceBEq, Nat.reduceBNe, Nat.reducePow, Int.reduceToNat, Int.reduceLE, Int.reduceLT, Int.reduceMul, Int.reduceEq, Int.reducePow, Int.reduceAdd, Int.reduceSub, Int.reduceNeg, reduceCtorEq, cx, Tryz.results15, h']) | (with_reducible first | refine ai ?_ | refine al ?_ | refine am ?_ | refine aL fun K hK => ?_ | refine ax ?_ | refine bg ?_ | refine az ?_) | (with_reducible refine hK _ ?_; clear hK K) | ((with_reducible refine ah ?_ ?_); (· decide)) | (with_reducible refine aa (h1) ?_) | (with_reducible refine aa (h2) ?_))
end Go.Proofs.YtpkcgdikbjaoaaaGreatDoor

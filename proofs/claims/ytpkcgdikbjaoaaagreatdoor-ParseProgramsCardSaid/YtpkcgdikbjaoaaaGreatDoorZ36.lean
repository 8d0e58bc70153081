/- The parser's answer beside the document's; in K. -/
import Derived.Test.YtpkcgdikbjaoaaaGreatDoorZ23
import Derived.Test.YtpkcgdikbjaoaaaGreatDoorZ34
import Derived.Test.YtpkcgdikbjaoaaaGreatDoorZ35
import Derived.Test.YtpkcgdikbjaoaaaGreatDoorZ25
import Derived.Test.YtpkcgdikbjaoaaaGreatDoorZ7
namespace Go.Proofs.YtpkcgdikbjaoaaaGreatDoor
set_option linter.unusedSimpArgs false
set_option linter.unusedVariables false
open Go.RowKit
theorem uI (l : Wd) : ∃ (P : List Pc) (b : Bool) (E : AV) (e : Nat) (a : Int),
    AFn Tryz.prog 6 [bs l] [] (.tup [.agg [.sl (fU P) P.length (ofB b)], E]) [] ∧
    AFn Tryz.prog 7 [bs l] [] (.tup [.agg [.sl (fU P) P.length (ofB b)], inA (e : Int), inA a]) [] ∧
    AFn Tryz.prog 9 [.agg [.sl (fU P) P.length (ofB b)], .agg [.sl (fU P) P.length (ofB b)]] [] (.c (.bool true)) [] ∧
    AFn Tryz.prog 8 [E, inA (e : Int), inA a] [] (.c (.bool true)) [] ∧
    ((E = .c .nilIface ∧ (cX l).2.1 = 0 ∧ (dG l).2.err = none) ∨
      (((cX l).2.1 ≠ 0 ∨ (dG l).2.err ≠ none) ∧ (E = .ifc 52 (inA (e : Int)) ∨ E = .ifc 74 (.rf [inA a, .ifc 52 (inA (e : Int))] 0)))) := by
  have h1 := pI l
  have h2 := uU l
  unfold oS at h1
  unfold oM at h2
  by_cases hz : (cX l).2.1 = 0
  case neg =>
    rw [if_neg hz] at h1 h2
    obtain ⟨k1, k2, k3⟩ := uz l
    refine ⟨[], true, lE (cX l).2.1 (cX l).2.2, (cX l).2.1, (cX l).2.2, h1, h2, mM [] true (Nat.zero_le _) (fun p hp => absurd hp List.not_mem_nil), rR _ _ k1 (fun h => absurd h hz), .inr ⟨.inl hz, ?_⟩⟩
    unfold lE jV
    split
    · exact .inl (eA hz)
    · right; rw [eA hz]
  rw [if_pos hz] at h1 h2
  obtain ⟨hs, hv⟩ := tU l
  cases he : (dG l).2.err with
  | none =>
    have hb := (fi hs he).1
    have hv := (hv he).2
    rw [he] at h1
    rw [if_pos hb, ← hv] at h2
    have hf := tM l
    have ht := rR 0 (-1) (by decide) (fun _ => by decide)
    rw [show lE 0 (-1) = .c .nilIface from rfl] at ht
    exact ⟨(dG l).1, false, .c .nilIface, 0, -1, h1, h2, mM _ false hf.1 hf.2, ht, .inl ⟨rfl, hz, rfl⟩⟩
  | some x =>
    obtain ⟨a, e⟩ := x
    obtain ⟨⟨k1, k2⟩, k3, k4, k5⟩ := lR hs he
    rw [he] at h1
    rw [if_neg (by rw [k3]; exact k1), k3, k4] at h2
    have ht := rR e a k2 (fun h => absurd h k1)
    rw [show lE e a = i3 (some (a, e)) from by rw [tN a k1]; unfold lE; rw [if_neg (fun h => h.elim (fun h => by omega) k1)]] at ht
    refine ⟨[], true, i3 (some (a, e)), e, a, h1, h2, mM [] true (Nat.zero_le _) (fun p hp => absurd hp List.not_mem_nil), ht, .inr ⟨.inr (by simp), .inr rfl⟩⟩
def bB : Nat → List Nat
  | 0 => [0]
  | 1 => [0]
  | 2 => [0, 3]
  | 3 => [3]
  | 4 => [0, 3]
  | 5 => [0, 3, 4, 5]
  | 6 => [3, 4, 5, 6, 7, 8]
  | _ => []
set_option maxRecDepth 100000 in
set_option maxHeartbeats 8000000 in
theorem rE (l : Wd) (_ : l.length ≤ 140737488351232) : AFn Tryz.prog 3 [bs l] [] (.c (.bool true)) [] := by
  have h1 := ut
  by_cases hl : 3000 < l.length ∧ l.length ≤ 65536
  · have hl1 : ((3000 : Int) < (l.length : Int)) = True := eq_true (by omega)
    have hl2 : ((l.length : Int) ≤ 65536) = True := eq_true (by omega)
    refine aK [] Tryz.func3 rfl Tryz.ntmps3 (Nat.le_of_ble_eq_true rfl) (Nat.le_of_ble_eq_true rfl) fun w0 G0 B0 Pr hB0 => ?_
    simp only [aQ, aI, List.cons_append, List.nil_append]
    repeat' (first | (with_reducible refine hY _ ?_; clear hY Y) | ((with_reducible first | refine av rfl (aD fun K' hK' => ab ?_) | refine hK' _ (ac fun Y hY => ab ?_) | refine bR rfl (ac fun Y hY => ab ?_) | refine ac fun Y hY => ab ?_ | refine aD fun K' hK' => ab ?_ | refine ae tk0 bB (ac fun Y hY => ab ?_) | refine ab ?_ | refine ap ?_); (try clear hK' K'); (try dsimp only [aop]); try simp only [go_sem, ↓reduceIte, Nat.reduceEqDiff, Nat.reduceLT, Nat.reduceLeDiff, Nat.reduceAdd, Nat.reduceSub, Nat.reduceMul, Nat.reduceBEq, Nat.reduceBNe, Nat.reducePow, Int.reduceToNat, Int.reduceLE, Int.reduceLT, Int.reduceMul, Int.reduceEq, Int.reducePow, Int.reduceAdd, Int.reduceSub, Int.reduceNeg, reduceCtorEq, bB, Tryz.results3, hl1, hl2]) | (with_reducible first | refine ai ?_ | refine aS ?_ | refine al ?_ | refine am ?_ | refine aL fun K hK => ?_ | refine ax ?_ | refine bg ?_ | refine az ?_) | (with_reducible refine hK _ ?_; clear hK K) | ((with_reducible first | refine aR ?_ ?_ | refine ah ?_ ?_); (· decide)) | (with_reducible refine aa (h1) ?_))
  obtain ⟨P, b, E, e, a, h2, h3, h4, h5, h6⟩ := uI l
  have h7 : E = .c .nilIface ∨ E = .ifc 52 (inA (e : Int)) ∨ E = .ifc 74 (.rf [inA a, .ifc 52 (inA (e : Int))] 0) := by
    rcases h6 with ⟨h, _⟩ | ⟨_, h⟩
    · exact .inl h
    · exact .inr h
  clear h6
  rcases h7 with rfl | rfl | rfl
  · refine aK [] Tryz.func3 rfl Tryz.ntmps3 (Nat.le_of_ble_eq_true rfl) (Nat.le_of_ble_eq_true rfl) fun w0 G0 B0 Pr hB0 => ?_
    simp only [aQ, aI, List.cons_append, List.nil_append]
    repeat' (first | (with_reducible refine hY _ ?_; clear hY Y) | ((with_reducible first | refine av rfl (aD fun K' hK' => ab ?_) | refine hK' _ (ac fun Y hY => ab ?_) | refine bR rfl (ac fun Y hY => ab ?_) | refine ac fun Y hY => ab ?_ | refine aD fun K' hK' => ab ?_ | refine ae tk0 bB (ac fun Y hY => ab ?_) | refine ab ?_ | refine ap ?_); (try clear hK' K'); (try dsimp only [aop]); try simp only [go_sem, ↓reduceIte, Nat.reduceEqDiff, Nat.reduceLT, Nat.reduceLeDiff, Nat.reduceAdd, Nat.reduceSub, Nat.reduceMul, Nat.reduceBEq, Nat.reduceBNe, Nat.reducePow, Int.reduceToNat, Int.reduceLE, Int.reduceLT, Int.reduceMul, Int.reduceEq, Int.reducePow, Int.reduceAdd, Int.reduceSub, Int.reduceNeg, reduceCtorEq, bB, Tryz.results3]) | (with_reducible first | refine ai ?_ | refine bj rfl ?_ | refine aS ?_ | refine dk ?_ ?_ | refine al ?_ | refine am ?_ | refine aL fun K hK => ?_ | refine ar ?_ | refine aC ?_ | refine az ?_) | (with_reducible refine hK _ ?_; clear hK K) | ((with_reducible first | refine aR ?_ ?_ | refine ah ?_ ?_); (· decide)) | ((with_reducible first | refine bK (fun hc => ?_) (fun hc => ?_) | refine bV (fun hc => ?_) (fun hc => ?_)) <;> (try simp only [decide_eq_true_eq, decide_eq_false_iff_not, Bool.not_true, Bool.not_false, Bool.not_eq_true', Bool.not_eq_false'] at hc) <;> (try (exfalso; omega))) | (with_reducible refine aa (h1) ?_) | (with_reducible refine aa (h2) ?_) | (with_reducible refine aa (h3) ?_) | (with_reducible refine aa (h4) ?_) | (with_reducible refine aa (h5) ?_))
  · refine aK [] Tryz.func3 rfl Tryz.ntmps3 (Nat.le_of_ble_eq_true rfl) (Nat.le_of_ble_eq_true rfl) fun w0 G0 B0 Pr hB0 => ?_
    simp only [aQ, aI, List.cons_append, List.nil_append]
    repeat' (first | (with_reducible refine hY _ ?_; clear hY Y) | ((with_reducible first | refine av rfl (aD fun K' hK' => ab ?_) | refine hK' _ (ac fun Y hY => ab ?_) | refine bR rfl (ac fun Y hY => ab ?_) | refine ac fun Y hY => ab ?_ | refine aD fun K' hK' => ab ?_ | refine ae tk0 bB (ac fun Y hY => ab ?_) | refine ab ?_ | refine ap ?_); (try clear hK' K'); (try dsimp only [aop]); try simp only [go_sem, ↓reduceIte, Nat.reduceEqDiff, Nat.reduceLT, Nat.reduceLeDiff, Nat.reduceAdd, Nat.reduceSub, Nat.reduceMul, Nat.reduceBEq, Nat.reduceBNe, Nat.reducePow, Int.reduceToNat, Int.reduceLE, Int.reduceLT, Int.reduceMul, Int.reduceEq, Int.reducePow, Int.reduceAdd, Int.reduceSub, Int.reduceNeg, reduceCtorEq, bB, Tryz.results3]) | (with_reducible first | refine ai ?_ | refine bj rfl ?_ | refine aS ?_ | refine dk ?_ ?_ | refine al ?_ | refine am ?_ | refine aL fun K hK => ?_ | refine ar ?_ | refine aC ?_ | refine az ?_) | (with_reducible refine hK _ ?_; clear hK K) | ((with_reducible first | refine aR ?_ ?_ | refine ah ?_ ?_); (· decide)) | ((with_reducible first | refine bK (fun hc => ?_) (fun hc => ?_) | refine bV (fun hc => ?_) (fun hc => ?_)) <;> (try simp only [decide_eq_true_eq, decide_eq_false_iff_not, Bool.not_true, Bool.not_false, Bool.not_eq_true', Bool.not_eq_false'] at hc) <;> (try (exfalso; omega))) | (with_reducible refine aa (h1) ?_) | (with_reducible refine aa (h2) ?_) | (with_reducible refine aa (h3) ?_) | (with_reducible refine aa (h4) ?_) | (with_reducible refine aa (h5) ?_))
  · refine aK [] Tryz.func3 rfl Tryz.ntmps3 (Nat.le_of_ble_eq_true rfl) (Nat.le_of_ble_eq_true rfl) fun w0 G0 B0 Pr hB0 => ?_
    simp only [aQ, aI, List.cons_append, List.nil_append]
    repeat' (first | (with_reducible refine hY _ ?_; clear hY Y) | ((with_reducible first | refine av rfl (aD fun K' hK' => ab ?_) | refine hK' _ (ac fun Y hY => ab ?_) | refine bR rfl (ac fun Y hY => ab ?_) | refine ac fun Y hY => ab ?_ | refine aD fun K' hK' => ab ?_ | refine ae tk0 bB (ac fun Y hY => ab ?_) | refine ab ?_ | refine ap ?_); (try clear hK' K'); (try dsimp only [aop]); try simp only [go_sem, ↓reduceIte, Nat.reduceEqDiff, Nat.reduceLT, Nat.reduceLeDiff, Nat.reduceAdd, Nat.reduceSub, Nat.reduceMul, Nat.reduceBEq, Nat.reduceBNe, Nat.reducePow, Int.reduceToNat, Int.reduceLE, Int.reduceLT, Int.reduceMul, Int.reduceEq, Int.reducePow, Int.reduceAdd, Int.reduceSub, Int.reduceNeg, reduceCtorEq, bB, Tryz.results3]) | (with_reducible first | refine ai ?_ | refine bj rfl ?_ | refine aS ?_ | refine dk ?_ ?_ | refine al ?_ | refine am ?_ | refine aL fun K hK => ?_ | refine ar ?_ | refine aC ?_ | refine az ?_) | (with_reducible refine hK _ ?_; clear hK K) | ((with_reducible first | refine aR ?_ ?_ | refine ah ?_ ?_); (· decide)) | ((with_reducible first | refine bK (fun hc => ?_) (fun hc => ?_) | refine bV (fun hc => ?_) (fun hc => ?_)) <;> (try simp only [decide_eq_true_eq, decide_eq_false_iff_not, Bool.not_true, Bool.not_false, Bool.not_eq_true', Bool.not_eq_false'] at hc) <;> (try (exfalso; omega))) | (with_reducible refine aa (h1) ?_) | (with_reducible refine aa (h2) ?_) | (with_reducible refine aa (h3) ?_) | (with_reducible refine aa (h4) ?_) | (with_reducible refine aa (h5) ?_))
end Go.Proofs.YtpkcgdikbjaoaaaGreatDoor

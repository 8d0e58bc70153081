/- ParseBlanks, in K. -/
import Derived.Test.YtpkcgdikbjaoaaaDoorZ23
import Derived.Test.YtpkcgdikbjaoaaaDoorZ24
import Derived.Test.YtpkcgdikbjaoaaaDoorZ25
import Derived.Test.YtpkcgdikbjaoaaaDoorZ26
namespace Go.Proofs.YtpkcgdikbjaoaaaDoor
set_option linter.unusedSimpArgs false
set_option linter.unusedVariables false
open Go.RowKit
theorem hI (a b : List Tok) : ca (a ++ b) = ca a ++ ca b := by simp [ca]
theorem ko (t : Tok) : ca [t] = t.text ++ [32] := by simp [ca]
theorem mL {l : List Tok} {k : Nat} (h : k < l.length) : ca (l.take (k + 1)) = ca (l.take k) ++ l[k].text ++ [32] := by
  rw [List.take_add_one, List.getElem?_eq_getElem h, Option.toList_some, hI, ko, List.append_assoc]
theorem qp (l : List Tok) (k : Nat) : (ca (l.take k)).length ≤ (ca l).length := by
  have h : ca l = ca (l.take k) ++ ca (l.drop k) := by rw [← hI, List.take_append_drop]
  rw [h, List.length_append]; omega
theorem gC : ∀ (f : Nat) (acc : List Tok) (a : Nat) (r : List UInt8), (ca (cM f acc a r).1).length ≤ (ca acc).length + 2 * r.length
  | 0, acc, _, _ => Nat.le_add_right _ _
  | f + 1, acc, a, [] => Nat.le_add_right _ _
  | f + 1, acc, a, c :: r => by
    simp only [cM]
    split
    · rename_i n hn
      have h1 := dO hn
      refine Nat.le_trans (gC f _ _ _) ?_
      rw [List.length_drop]; omega
    · rename_i t hn
      have h1 := eC hn
      refine Nat.le_trans (gC f _ _ _) ?_
      rw [List.length_drop, hI, ko, List.length_append, List.length_append, List.length_singleton]; omega
    · exact Nat.zero_le _
theorem mB (l : List UInt8) : (ca (cg l).1).length ≤ 2 * l.length := by
  unfold cg
  split
  · exact Nat.zero_le _
  · exact Nat.le_trans (gC _ _ _ _) (by show 0 + _ ≤ _; omega)
theorem km : ∀ (l : List Tok) (a : Nat), (gM a l).map Tok.er = l.map Tok.er
  | [], _ => rfl
  | t :: l, a => by rw [gM, List.map_cons, List.map_cons, km l]; rfl
theorem l6 (t : Tok) : (fL t).length = 3 := rfl
theorem rr {e : Nat} (h : e ≠ 0) (a : Int) : mI e a = .ifc 53 (inA (e : Int)) ∨ mI e a = .ifc 60 (.rf [inA a, .ifc 53 (inA (e : Int))] 0) := by
  unfold mI iv
  split
  · exact .inl (cO h)
  · right; rw [cO h]
set_option maxRecDepth 100000 in
theorem oG (a b : Bool) : ∀ w, (((pure () : Sem Unit) >>= fun _ => binOp .eql 4 (.bool a) (.bool b)) : Sem Value).run Tryd.prog w = .ok (.bool (a == b)) w := fun w => by
  have ht := Tryd.underlying4
  have h : ∀ d : Nat, (Op.equalIn (d + 2) 4 (.bool a) (.bool b)).run Tryd.prog w = .ok (a == b) w := fun d => by
    simp [Op.equalIn, run_underlying ht]
  have h2 : (binOp .eql 4 (.bool a) (.bool b)).run Tryd.prog w = .ok (.bool (a == b)) w := by
    simp only [binOp]
    simp [Op.equal, Op.maxDepth, h 9998]
  rw [Sem.run_bind]
  exact h2
def aG : Nat → List Nat
  | 0 => [0]
  | 1 => [0]
  | 2 => [0, 3]
  | 3 => [3]
  | 4 => [0, 3]
  | 5 => [0, 3, 4, 5]
  | 6 => [3]
  | 7 => [0, 3, 4]
  | 8 => [0, 3, 4, 6]
  | 9 => [0, 3, 4, 6, 7]
  | 10 => [0, 3, 4, 6, 7]
  | 11 => [0, 3, 4, 6, 7]
  | 12 => [0, 3, 6]
  | 13 => [3, 6, 8, 9]
  | 14 => [3, 8, 9, 10, 11]
  | _ => []
set_option maxRecDepth 100000 in
set_option maxHeartbeats 16000000 in
theorem p9 (l : Wd) (_ : l.length ≤ 140737488351232) : AFn Tryd.prog 3 [bs l] [] (.c (.bool true)) [] := by
  have h1 := sv
  by_cases hl : 3000 < l.length
  · have hl1 : ((3000 : Int) < (l.length : Int)) = True := eq_true (by omega)
    refine aM [] Tryd.func3 rfl Tryd.ntmps3 (Nat.le_of_ble_eq_true rfl) (Nat.le_of_ble_eq_true rfl) fun w0 G0 B0 Pr hB0 => ?_
    simp only [aS, aJ, List.cons_append, List.nil_append]
    repeat' (first | (with_reducible refine hY _ ?_; clear hY Y) | ((with_reducible first | refine aD rfl (aN fun K' hK' => ab ?_) | refine hK' _ (ac fun Y hY => ab ?_) | refine bV rfl (ac fun Y hY => ab ?_) | refine ac fun Y hY => ab ?_ | refine aN fun K' hK' => ab ?_ | refine ae tk0 aG (ac fun Y hY => ab ?_) | refine ab ?_ | refine av ?_ | refine dg rfl (dp fun K' hK' => ab ?_) | refine hK' _ _ (ac fun Y hY => ab ?_) | refine lg rfl (ac fun Y hY => ab ?_) | refine dp fun K' hK' => ab ?_ | refine dl ?_); (try clear hK' K'); (try dsimp only [aop]); try simp only [go_sem, ↓reduceIte, Nat.reduceEqDiff, Nat.reduceLT, Nat.reduceLeDiff, Nat.reduceAdd, Nat.reduceSub, Nat.reduceMul, Nat.reduceBEq, Nat.reduceBNe, Nat.reducePow, Int.reduceToNat, Int.reduceLE, Int.reduceLT, Int.reduceMul, Int.reduceEq, Int.reducePow, Int.reduceAdd, Int.reduceSub, Int.reduceNeg, reduceCtorEq, aG, Tryd.results3, hl1]) | (with_reducible first | refine aj ?_ | refine bW rfl ?_ | refine bl ?_ | refine dU ?_ | refine fa ?_ ?_ | refine ar ?_ | refine au ?_ | refine aT fun K hK => ?_ | refine aK ?_ | refine aC ?_ | refine b3 ?_ | refine bA ?_ | refine a8 ?_ | refine b6 ?_ | refine bG ?_ | refine ax ?_ | refine aP ?_ | refine aF ?_ | refine bH ?_ | refine bZ ?_ | refine fm ?_ | refine fj ?_ | refine cn ?_ | refine gT fun K hK => ?_) | (with_reducible refine hK _ ?_; clear hK K) | (with_reducible refine hK _ _ ?_ ?_; (· kernel_rfl); clear hK K) | ((with_reducible first | refine bh ?_ ?_ | refine al ?_ ?_ | refine iM ?_ ?_); (· decide)) | (with_reducible refine cj tk0 aG ?_ ?_; (· kernel_rfl)) | ((with_reducible first | refine cu (fun hc => ?_) (fun hc => ?_) | refine dK (fun hc => ?_) (fun hc => ?_)) <;> (try simp only [decide_eq_true_eq, decide_eq_false_iff_not, Bool.not_true, Bool.not_false, Bool.not_eq_true', Bool.not_eq_false'] at hc) <;> (try (exfalso; omega))) | (with_reducible refine bT ?_ ?_; (· (try and_intros) <;> first | omega | assumption | (simp only [List.length_append, List.length_map, List.length_cons, List.length_nil] <;> omega))) | (with_reducible refine aa (h1) ?_) | (with_reducible refine iL ?_) | fail)
  have hl1 : ((3000 : Int) < (l.length : Int)) = False := eq_false (by omega)
  have h2 := qv l
  unfold nI at h2
  by_cases hz : (cg l).2.1 = 0
  case neg =>
    rw [if_neg hz] at h2
    rcases rr hz (cg l).2.2 with he | he
    all_goals rw [he] at h2
    all_goals
      refine aM [] Tryd.func3 rfl Tryd.ntmps3 (Nat.le_of_ble_eq_true rfl) (Nat.le_of_ble_eq_true rfl) fun w0 G0 B0 Pr hB0 => ?_
      simp only [aS, aJ, List.cons_append, List.nil_append]
    all_goals
      repeat' (first | (with_reducible refine hY _ ?_; clear hY Y) | ((with_reducible first | refine aD rfl (aN fun K' hK' => ab ?_) | refine hK' _ (ac fun Y hY => ab ?_) | refine bV rfl (ac fun Y hY => ab ?_) | refine ac fun Y hY => ab ?_ | refine aN fun K' hK' => ab ?_ | refine ae tk0 aG (ac fun Y hY => ab ?_) | refine ab ?_ | refine av ?_ | refine dg rfl (dp fun K' hK' => ab ?_) | refine hK' _ _ (ac fun Y hY => ab ?_) | refine lg rfl (ac fun Y hY => ab ?_) | refine dp fun K' hK' => ab ?_ | refine dl ?_); (try clear hK' K'); (try dsimp only [aop]); try simp only [go_sem, ↓reduceIte, Nat.reduceEqDiff, Nat.reduceLT, Nat.reduceLeDiff, Nat.reduceAdd, Nat.reduceSub, Nat.reduceMul, Nat.reduceBEq, Nat.reduceBNe, Nat.reducePow, Int.reduceToNat, Int.reduceLE, Int.reduceLT, Int.reduceMul, Int.reduceEq, Int.reducePow, Int.reduceAdd, Int.reduceSub, Int.reduceNeg, reduceCtorEq, aG, Tryd.results3, hl1]) | (with_reducible first | refine aj ?_ | refine bW rfl ?_ | refine bl ?_ | refine dU ?_ | refine fa ?_ ?_ | refine ar ?_ | refine au ?_ | refine aT fun K hK => ?_ | refine aK ?_ | refine aC ?_ | refine b3 ?_ | refine bA ?_ | refine a8 ?_ | refine b6 ?_ | refine bG ?_ | refine ax ?_ | refine aP ?_ | refine aF ?_ | refine bH ?_ | refine bZ ?_ | refine fm ?_ | refine fj ?_ | refine cn ?_ | refine gT fun K hK => ?_) | (with_reducible refine hK _ ?_; clear hK K) | (with_reducible refine hK _ _ ?_ ?_; (· kernel_rfl); clear hK K) | ((with_reducible first | refine bh ?_ ?_ | refine al ?_ ?_ | refine iM ?_ ?_); (· decide)) | (with_reducible refine cj tk0 aG ?_ ?_; (· kernel_rfl)) | ((with_reducible first | refine cu (fun hc => ?_) (fun hc => ?_) | refine dK (fun hc => ?_) (fun hc => ?_)) <;> (try simp only [decide_eq_true_eq, decide_eq_false_iff_not, Bool.not_true, Bool.not_false, Bool.not_eq_true', Bool.not_eq_false'] at hc) <;> (try (exfalso; omega))) | (with_reducible refine bT ?_ ?_; (· (try and_intros) <;> first | omega | assumption | (simp only [List.length_append, List.length_map, List.length_cons, List.length_nil] <;> omega))) | (with_reducible refine aa (h1) ?_) | (with_reducible refine aa (h2) ?_) | (with_reducible refine bE (cP) ?_) | (with_reducible refine bE (fR) ?_) | (with_reducible refine iL ?_) | fail)
  rw [if_pos hz] at h2
  obtain ⟨T, hT⟩ : ∃ T, T = (cg l).1 := ⟨_, rfl⟩
  have hs := mB l
  have hc := l8 l
  have htl := kc l
  rw [← hT] at h2 hs hc htl
  have hj := m5 hc (by omega)
  have hp : (cg l).1.map Tok.er = (cg (ca T)).1.map Tok.er := by rw [hj, ← hT, km]
  have h3 := iI l
  have h4 := iI (ca T)
  have hf := oe l
  obtain ⟨e1, e2⟩ := qj hp
  unfold ly at h3 h4
  rw [if_pos hz] at h3
  rw [if_pos (by rw [hj])] at h4
  obtain ⟨P, b, E1, E2, h5, h6, h7, h8⟩ : ∃ (P : List Pc) (b : Bool) (E1 E2 : AV), AFn Tryd.prog 6 [bs l] [] (.tup [.agg [.sl (d9 P) P.length (ofB b)], E1]) [] ∧
      AFn Tryd.prog 6 [bs (ca T)] [] (.tup [.agg [.sl (d9 P) P.length (ofB b)], E2]) [] ∧
      AFn Tryd.prog 7 [.agg [.sl (d9 P) P.length (ofB b)], .agg [.sl (d9 P) P.length (ofB b)]] [] (.c (.bool true)) [] ∧
      ((E1 = .c .nilIface ∧ E2 = .c .nilIface) ∨ ∃ a1 a2 n1 n2, E1 = .ifc 60 (.rf [inA a1, .ifc 53 (inA n1)] 0) ∧ E2 = .ifc 60 (.rf [inA a2, .ifc 53 (inA n2)] 0)) := by
    cases hn : (cH l).2.err with
    | none =>
      rw [hn] at h3
      rw [e2.1 hn, ← e1] at h4
      exact ⟨(cH l).1, false, _, _, h3, h4, lG _ false hf.1 hf.2, .inl ⟨rfl, rfl⟩⟩
    | some x =>
      obtain ⟨y, hy⟩ : ∃ y, (cH (ca T)).2.err = some y := by
        cases h9 : (cH (ca T)).2.err with
        | none => rw [e2.2 h9] at hn; cases hn
        | some y => exact ⟨y, rfl⟩
      rw [hn] at h3
      rw [hy] at h4
      obtain ⟨a1, n1⟩ := x
      obtain ⟨a2, n2⟩ := y
      exact ⟨[], true, _, _, h3, h4, lG [] true (Nat.zero_le _) (fun p hp => absurd hp List.not_mem_nil), .inr ⟨a1, a2, n1, n2, rfl, rfl⟩⟩
  clear h3 h4 e1 e2 hf hp hj hc hT hz
  rcases h8 with ⟨rfl, rfl⟩ | ⟨a1, a2, n1, n2, rfl, rfl⟩
  all_goals
    refine aM [] Tryd.func3 rfl Tryd.ntmps3 (Nat.le_of_ble_eq_true rfl) (Nat.le_of_ble_eq_true rfl) fun w0 G0 B0 Pr hB0 => ?_
    simp only [aS, aJ, List.cons_append, List.nil_append]
  all_goals
    repeat' (first | (with_reducible refine hY _ ?_; clear hY Y) | ((with_reducible first | refine aD rfl (aN fun K' hK' => ab ?_) | refine hK' _ (ac fun Y hY => ab ?_) | refine bV rfl (ac fun Y hY => ab ?_) | refine ac fun Y hY => ab ?_ | refine aN fun K' hK' => ab ?_ | refine ae tk0 aG (ac fun Y hY => ab ?_) | refine ab ?_ | refine av ?_ | refine dg rfl (dp fun K' hK' => ab ?_) | refine hK' _ _ (ac fun Y hY => ab ?_) | refine lg rfl (ac fun Y hY => ab ?_) | refine dp fun K' hK' => ab ?_ | refine dl ?_); (try clear hK' K'); (try dsimp only [aop]); try simp only [go_sem, ↓reduceIte, Nat.reduceEqDiff, Nat.reduceLT, Nat.reduceLeDiff, Nat.reduceAdd, Nat.reduceSub, Nat.reduceMul, Nat.reduceBEq, Nat.reduceBNe, Nat.reducePow, Int.reduceToNat, Int.reduceLE, Int.reduceLT, Int.reduceMul, Int.reduceEq, Int.reducePow, Int.reduceAdd, Int.reduceSub, Int.reduceNeg, reduceCtorEq, aG, Tryd.results3, hl1]) | (with_reducible first | refine aj ?_ | refine bW rfl ?_ | refine bl ?_ | refine dU ?_ | refine fa ?_ ?_ | refine ar ?_ | refine au ?_ | refine aT fun K hK => ?_ | refine aK ?_ | refine aC ?_ | refine b3 ?_ | refine bA ?_ | refine a8 ?_ | refine b6 ?_ | refine bG ?_ | refine ax ?_ | refine aP ?_ | refine aF ?_ | refine bH ?_ | refine bZ ?_ | refine fm ?_ | refine fj ?_ | refine cn ?_ | refine gT fun K hK => ?_) | (with_reducible refine hK _ ?_; clear hK K) | (with_reducible refine hK _ _ ?_ ?_; (· kernel_rfl); clear hK K) | ((with_reducible first | refine bh ?_ ?_ | refine al ?_ ?_ | refine iM ?_ ?_); (· decide)) | (with_reducible refine cj tk0 aG ?_ ?_; (· kernel_rfl)) | ((with_reducible first | refine cu (fun hc => ?_) (fun hc => ?_) | refine dK (fun hc => ?_) (fun hc => ?_)) <;> (try simp only [decide_eq_true_eq, decide_eq_false_iff_not, Bool.not_true, Bool.not_false, Bool.not_eq_true', Bool.not_eq_false'] at hc) <;> (try (exfalso; omega))) | (with_reducible refine bT ?_ ?_; (· (try and_intros) <;> first | omega | assumption | (simp only [List.length_append, List.length_map, List.length_cons, List.length_nil] <;> omega))) | (with_reducible refine aa (h1) ?_) | (with_reducible refine aa (h2) ?_) | (with_reducible refine bE (cP) ?_) | (with_reducible refine bE (fR) ?_) | (with_reducible refine iL ?_) | fail)
  all_goals
    refine b7 (α := Nat) (fun k => [(0, bs l), (3, .c (.bool true)), (4, .sl (T.flatMap fL) T.length .none), (6, bs (ca (T.take k))), (7, inA (k : Int))])
      (fun k => k ≤ T.length) (fun k => T.length - k) 0 [0, 3, 4, 6, 7] ?_ (Nat.zero_le _) ?_
  all_goals first
    | (simp only [go_sem, ↓reduceIte, Nat.reduceEqDiff, Nat.reduceLT, Nat.reduceLeDiff, Nat.reduceAdd, Nat.reduceSub, Nat.reduceMul, Nat.reduceBEq, Nat.reduceBNe, Nat.reducePow, Int.reduceToNat, Int.reduceLE, Int.reduceLT, Int.reduceMul, Int.reduceEq, Int.reducePow, Int.reduceAdd, Int.reduceSub, Int.reduceNeg, reduceCtorEq] <;> rfl)
    | skip
  all_goals
    intro k hk ih
    by_cases hlt : k < T.length
  all_goals first
    | (have hlt' : ((k : Int) < (T.length : Int)) = True := eq_true (by omega)
       have hkw : IntKind.i64.wrap ((k : Int) + 1) = ((k + 1 : Nat) : Int) := by rw [bX (by omega) (by omega)]; rfl
       have hg0 := oZ l6 hlt 2 (by decide)
       have hfl := gy l6 T
       have hjt := mL hlt
       have hjl := qp T (k + 1)
       rw [hjt, List.length_append, List.length_append, List.length_singleton] at hjl
       generalize T[k] = t at *)
    | (have hlt' : ((k : Int) < (T.length : Int)) = False := eq_false (by omega)
       have hkw : True = True := rfl
       have hg0 : True = True := rfl
       have hfl : True = True := rfl
       have hjt : True = True := rfl
       rw [show T.take k = T from List.take_of_length_le (by omega)])
  all_goals
    repeat' (first | (with_reducible refine hY _ ?_; clear hY Y) | ((with_reducible first | refine aD rfl (aN fun K' hK' => ab ?_) | refine hK' _ (ac fun Y hY => ab ?_) | refine bV rfl (ac fun Y hY => ab ?_) | refine ac fun Y hY => ab ?_ | refine aN fun K' hK' => ab ?_ | refine ae tk0 aG (ac fun Y hY => ab ?_) | refine ab ?_ | refine av ?_ | refine dg rfl (dp fun K' hK' => ab ?_) | refine hK' _ _ (ac fun Y hY => ab ?_) | refine lg rfl (ac fun Y hY => ab ?_) | refine dp fun K' hK' => ab ?_ | refine dl ?_); (try clear hK' K'); (try dsimp only [aop]); try simp only [go_sem, ↓reduceIte, Nat.reduceEqDiff, Nat.reduceLT, Nat.reduceLeDiff, Nat.reduceAdd, Nat.reduceSub, Nat.reduceMul, Nat.reduceBEq, Nat.reduceBNe, Nat.reducePow, Int.reduceToNat, Int.reduceLE, Int.reduceLT, Int.reduceMul, Int.reduceEq, Int.reducePow, Int.reduceAdd, Int.reduceSub, Int.reduceNeg, reduceCtorEq, aG, Tryd.results3, hlt', hfl, hg0, hkw, ← hjt]) | (with_reducible first | refine aj ?_ | refine bW rfl ?_ | refine bl ?_ | refine dU ?_ | refine fa ?_ ?_ | refine ar ?_ | refine au ?_ | refine aT fun K hK => ?_ | refine aK ?_ | refine aC ?_ | refine b3 ?_ | refine bA ?_ | refine a8 ?_ | refine b6 ?_ | refine bG ?_ | refine ax ?_ | refine aP ?_ | refine aF ?_ | refine bH ?_ | refine bZ ?_ | refine fm ?_ | refine fj ?_ | refine cn ?_ | refine gT fun K hK => ?_) | (with_reducible refine hK _ ?_; clear hK K) | (with_reducible refine hK _ _ ?_ ?_; (· kernel_rfl); clear hK K) | ((with_reducible first | refine bh ?_ ?_ | refine al ?_ ?_ | refine iM ?_ ?_); (· decide)) | (with_reducible refine cj tk0 aG ?_ ?_; (· kernel_rfl)) | ((with_reducible first | refine cu (fun hc => ?_) (fun hc => ?_) | refine dK (fun hc => ?_) (fun hc => ?_)) <;> (try simp only [decide_eq_true_eq, decide_eq_false_iff_not, Bool.not_true, Bool.not_false, Bool.not_eq_true', Bool.not_eq_false'] at hc) <;> (try (exfalso; omega))) | (with_reducible refine bT ?_ ?_; (· (try and_intros) <;> first | omega | assumption | (simp only [List.length_append, List.length_map, List.length_cons, List.length_nil] <;> omega))) | (with_reducible refine aa (h5) ?_) | (with_reducible refine aa (h6) ?_) | (with_reducible refine aa (h7) ?_) | (with_reducible refine bE (cP) ?_) | (with_reducible refine bE (fR) ?_) | (with_reducible refine bE (oG _ _) ?_) | (with_reducible refine bE (rH _ _ ?_) ?_; (· (try simp only [List.length_append, List.length_cons, List.length_nil]); omega)) | (with_reducible refine iL ?_) | fail)
  all_goals
    refine bI [0, 3, 4, 6, 7] (by simp only [go_sem, ↓reduceIte, Nat.reduceEqDiff, Nat.reduceLT, Nat.reduceLeDiff, Nat.reduceAdd, Nat.reduceSub, Nat.reduceMul, Nat.reduceBEq, Nat.reduceBNe, Nat.reducePow, Int.reduceToNat, Int.reduceLE, Int.reduceLT, Int.reduceMul, Int.reduceEq, Int.reducePow, Int.reduceAdd, Int.reduceSub, Int.reduceNeg, reduceCtorEq]; exact rfl) ?_
    exact ih (k + 1) (by omega) (by omega)
end Go.Proofs.YtpkcgdikbjaoaaaDoor

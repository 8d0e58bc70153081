/- scan.Scan: what it answers, and that it does, in K. What scanL gives: its errors, its tokens. The parser's state at the beginning; programs. No program is in sight. -/
import Derived.Test.YtpkcgdikbjaoaaaGreatDoorZ11
import Derived.Test.YtpkcgdikbjaoaaaGreatDoorZ12
namespace Go.Proofs.YtpkcgdikbjaoaaaGreatDoor
set_option linter.unusedSimpArgs false
set_option linter.unusedVariables false
open Go.RowKit
def blanksL : List UInt8 := [32, 9, 10]
def slashL : List UInt8 := [47, 47]
inductive Aw where
  | skip (n : Nat)
  | tok (t : Tok)
  | err (e : Nat)
def dC (a : Nat) (r : List UInt8) : Aw :=
  if 0 < bP blanksL r then .skip (bP blanksL r)
  else if slashL.isPrefixOf r then .skip (r.takeWhile (· != 10)).length
  else if (dT a r).2 = 0 then .tok (dT a r).1 else .err (dT a r).2
abbrev Res := List Tok × Nat × Int
def eQ : Nat → List Tok → Nat → List UInt8 → Res
  | 0, acc, _, _ => (acc, 0, -1)
  | f + 1, acc, a, r => match r with
    | [] => (acc, 0, -1)
    | c :: r' => match dC a (c :: r') with
      | .skip n => eQ f acc (a + n) ((c :: r').drop n)
      | .tok t => eQ f (acc ++ [t]) (a + t.text.length) ((c :: r').drop t.text.length)
      | .err e => ([], e, (a : Int))
def cX (l : List UInt8) : Res := if 65536 < l.length then ([], 2, -1) else eQ (l.length + 1) [] 0 l
theorem t4 : ∀ c ∈ blanksL, c.toNat < 128 := by decide
theorem sM : ∀ o ∈ opL, 0 < o.length := by decide
theorem sc {a : Nat} {r : List UInt8} (h : (dT a r).2 = 0) : 0 < (dT a r).1.text.length ∧ (dT a r).1.text.length ≤ r.length ∧ (dT a r).1.at0 = a := by
  revert h
  unfold dT
  split
  · rename_i h1
    split
    · intro h; cases h
    · intro _
      have h2 : 0 < bP wordL r := by
        obtain ⟨c, t, e, hc⟩ := among_pos.1 h1
        exact among_pos.2 ⟨c, t, e, by rw [mS, ← gR, hc]; rfl⟩
      have h3 := fu wordL r
      refine ⟨?_, ?_, rfl⟩
      · show 0 < (r.take _).length
        rw [List.length_take]; omega
      · show (r.take _).length ≤ _
        rw [List.length_take]; omega
  · split
    · rename_i h1
      split
      · intro h; cases h
      · intro _
        have h3 := fu digitsL r
        refine ⟨?_, ?_, rfl⟩
        · show 0 < (r.take _).length
          rw [List.length_take]; omega
        · show (r.take _).length ≤ _
          rw [List.length_take]; omega
    · split
      · rename_i o ho
        intro _
        have hm := List.mem_of_find?_eq_some ho
        have hp := List.find?_some ho
        refine ⟨sM o hm, ?_, rfl⟩
        exact (List.isPrefixOf_iff_prefix.1 hp).length_le
      · intro h; cases h
theorem qq (a : Nat) (r : List UInt8) : (dT a r).2 ≤ 16 := by
  unfold dT
  repeat' split
  all_goals exact Nat.le_of_ble_eq_true rfl
theorem gq {a n : Nat} {r : List UInt8} (h : dC a r = .skip n) : 0 < n ∧ n ≤ r.length := by
  unfold dC at h
  split at h
  · cases h; exact ⟨by assumption, fu _ _⟩
  · split at h
    · rename_i h1
      cases h
      obtain ⟨t, rfl⟩ := List.isPrefixOf_iff_prefix.1 h1
      refine ⟨?_, (List.takeWhile_sublist _).length_le⟩
      show 0 < ((47 :: 47 :: t).takeWhile (· != 10)).length
      rw [List.takeWhile_cons, if_pos (by decide)]; simp
    · split at h <;> cases h
theorem jt {a : Nat} {t : Tok} {r : List UInt8} (h : dC a r = .tok t) : 0 < t.text.length ∧ t.text.length ≤ r.length := by
  unfold dC at h
  split at h
  · cases h
  · split at h
    · cases h
    · split at h
      · rename_i h1
        cases h
        exact ⟨(sc h1).1, (sc h1).2.1⟩
      · cases h
theorem ip : ∀ (f g : Nat) (acc : List Tok) (a : Nat) (r : List UInt8), r.length < f → r.length < g → eQ f acc a r = eQ g acc a r
  | 0, _, _, _, _, h, _ => absurd h (by omega)
  | _, 0, _, _, _, _, h => absurd h (by omega)
  | f + 1, g + 1, acc, a, [], _, _ => rfl
  | f + 1, g + 1, acc, a, c :: r, h1, h2 => by
    simp only [eQ]
    split
    · rename_i n hn
      have := gq hn
      simp only [List.length_cons] at h1 h2 this
      exact ip f g _ _ _ (by rw [List.length_drop, List.length_cons]; omega) (by rw [List.length_drop, List.length_cons]; omega)
    · rename_i t hn
      have := jt hn
      simp only [List.length_cons] at h1 h2 this
      exact ip f g _ _ _ (by rw [List.length_drop, List.length_cons]; omega) (by rw [List.length_drop, List.length_cons]; omega)
    · rfl
def fD (acc : List Tok) (a : Nat) (r : List UInt8) : Res := eQ (r.length + 1) acc a r
theorem lm (acc : List Tok) (a : Nat) : fD acc a [] = (acc, 0, -1) := rfl
theorem fd {acc : List Tok} {a n : Nat} {r : List UInt8} (h0 : 0 < r.length) (h : dC a r = .skip n) : fD acc a r = fD acc (a + n) (r.drop n) := by
  have hn := gq h
  cases r with
  | nil => simp at h0
  | cons c r =>
    unfold fD
    rw [eQ, h]
    simp only
    apply ip <;> (rw [List.length_drop]; simp only [List.length_cons] at *; omega)
theorem ij {acc : List Tok} {a : Nat} {t : Tok} {r : List UInt8} (h0 : 0 < r.length) (h : dC a r = .tok t) : fD acc a r = fD (acc ++ [t]) (a + t.text.length) (r.drop t.text.length) := by
  have hn := jt h
  cases r with
  | nil => simp at h0
  | cons c r =>
    unfold fD
    rw [eQ, h]
    simp only
    apply ip <;> (rw [List.length_drop]; simp only [List.length_cons] at *; omega)
theorem jH {acc : List Tok} {a e : Nat} {r : List UInt8} (h0 : 0 < r.length) (h : dC a r = .err e) : fD acc a r = ([], e, (a : Int)) := by
  cases r with
  | nil => simp at h0
  | cons c r =>
    unfold fD
    rw [eQ, h]
def wb (R : Res) : AV := if R.2.1 = 0 then .tup [.sl (R.1.flatMap ee) R.1.length .none, .c .nilIface] else .tup [.sl [] 0 .full, lE R.2.1 R.2.2]
def bT : Nat → List Nat
  | 0 => [0]
  | 1 => [0]
  | 2 => []
  | 3 => [0]
  | 4 => [0, 4]
  | 5 => [0, 4, 5]
  | 6 => [0, 4, 5]
  | 7 => [0, 4, 5, 6]
  | 8 => [0, 4, 5, 6]
  | 9 => [0, 4, 5]
  | 10 => [0, 4, 5]
  | 11 => [0, 4, 5, 7]
  | 12 => [0, 4, 5]
  | 13 => [0, 4, 5, 10, 11]
  | 14 => [5, 11]
  | 15 => [0, 4, 5, 10]
  | 16 => [0, 4, 5, 10]
  | 17 => [4]
  | _ => []
theorem uB : (ByteArray.mk #[10]) = ByteArray.mk [10].toArray := rfl
theorem lN : (ByteArray.mk #[32, 9, 10]) = ByteArray.mk blanksL.toArray := rfl
theorem rn : (ByteArray.mk #[47, 47]) = ByteArray.mk slashL.toArray := rfl
set_option maxRecDepth 100000 in
set_option maxHeartbeats 8000000 in
theorem y5 (l : List UInt8) : AFn Tryz.prog 11 [bs l] [] (wb (cX l)) [] := by
  unfold cX
  by_cases hl : 65536 < l.length
  · rw [if_pos hl]
    have hl' : ((65536 : Int) < (l.length : Int)) = True := eq_true (by omega)
    refine aK [] Tryz.func11 rfl Tryz.ntmps11 (Nat.le_of_ble_eq_true rfl) (Nat.le_of_ble_eq_true rfl) fun w0 G0 B0 Pr hB0 => ?_
    simp only [aQ, aI, List.cons_append, List.nil_append]
    repeat' (first | (with_reducible refine hY _ ?_; clear hY Y) | ((with_reducible first | refine av rfl (aD fun K' hK' => ab ?_) | refine hK' _ (ac fun Y hY => ab ?_) | refine ac fun Y hY => ab ?_ | refine ae tk0 bT (ac fun Y hY => ab ?_) | refine ab ?_ | refine ap ?_); (try clear hK' K'); (try dsimp only [aop]); try simp only [go_sem, ↓reduceIte, Nat.reduceEqDiff, Nat.reduceLT, Nat.reduceLeDiff, Nat.reduceAdd, Nat.reduceSub, Nat.reduceMul, Nat.reduceBEq, Nat.reduceBNe, Nat.reducePow, Int.reduceToNat, Int.reduceLE, Int.reduceLT, Int.reduceMul, Int.reduceEq, Int.reducePow, Int.reduceAdd, Int.reduceSub, Int.reduceNeg, reduceCtorEq, bT, Tryz.results11, hl']) | (with_reducible first | refine ai ?_ | refine al ?_ | refine am ?_ | refine aL fun K hK => ?_ | refine ax ?_ | refine bg ?_ | refine az ?_) | (with_reducible refine hK _ ?_; clear hK K) | ((with_reducible refine ah ?_ ?_); (· decide)))
    rfl
  rw [if_neg hl]
  have hl' : ((65536 : Int) < (l.length : Int)) = False := eq_false (by omega)
  obtain ⟨R, hR⟩ : ∃ R, R = eQ (l.length + 1) [] 0 l := ⟨_, rfl⟩
  rw [← hR]
  refine aK [] Tryz.func11 rfl Tryz.ntmps11 (Nat.le_of_ble_eq_true rfl) (Nat.le_of_ble_eq_true rfl) fun w0 G0 B0 Pr hB0 => ?_
  simp only [aQ, aI, List.cons_append, List.nil_append]
  repeat' (first | (with_reducible refine hY _ ?_; clear hY Y) | ((with_reducible first | refine av rfl (aD fun K' hK' => ab ?_) | refine hK' _ (ac fun Y hY => ab ?_) | refine ac fun Y hY => ab ?_ | refine ae tk0 bT (ac fun Y hY => ab ?_)); (try clear hK' K'); (try dsimp only [aop]); try simp only [go_sem, ↓reduceIte, Nat.reduceEqDiff, Nat.reduceLT, Nat.reduceLeDiff, Nat.reduceAdd, Nat.reduceSub, Nat.reduceMul, Nat.reduceBEq, Nat.reduceBNe, Nat.reducePow, Int.reduceToNat, Int.reduceLE, Int.reduceLT, Int.reduceMul, Int.reduceEq, Int.reducePow, Int.reduceAdd, Int.reduceSub, Int.reduceNeg, reduceCtorEq, bT, Tryz.results11, hl']) | (with_reducible first | refine ai ?_ | refine al ?_ | refine am ?_ | refine aL fun K hK => ?_ | refine ar ?_ | refine aq ?_ | refine aC ?_ | refine bx ?_) | (with_reducible refine hK _ ?_; clear hK K) | ((with_reducible refine ah ?_ ?_); (· decide)))
  refine fw (gk (b := 10060) (t := 4) 85 (by decide) (by decide) rfl rfl) ?_
  refine cw (α := List Tok × Nat) (fun p => [(0, bs l), (4, .sl (p.1.flatMap ee) p.1.length (.tok 10060)), (5, .c (.int .i64 (p.2 : Int))), (10060, .bt p.1.length 85)])
    (fun p => p.2 ≤ l.length ∧ p.1.length ≤ p.2 ∧ fD p.1 p.2 (l.drop p.2) = R) (fun p => l.length - p.2) ([], 0) [0, 4, 5] ?_ ⟨Nat.zero_le _, Nat.zero_le _, hR.symm⟩ ?_
  · simp only [go_sem, ↓reduceIte, Nat.reduceEqDiff, Nat.reduceLT, Nat.reduceLeDiff, Nat.reduceAdd, Nat.reduceSub, Nat.reduceMul, Nat.reduceBEq, Nat.reduceBNe, Nat.reducePow, Int.reduceToNat, Int.reduceLE, Int.reduceLT, Int.reduceMul, Int.reduceEq, Int.reducePow, Int.reduceAdd, Int.reduceSub, Int.reduceNeg, reduceCtorEq] <;> rfl
  rintro ⟨acc, a⟩ ⟨ha, hacc, hs⟩ ih
  simp only at ih ha hacc hs ⊢
  clear hR
  by_cases hlt : a < l.length
  case neg =>
    have hlt' : ((a : Int) < (l.length : Int)) = False := eq_false (by omega)
    have he : l.drop a = [] := List.drop_of_length_le (by omega)
    rw [he, lm] at hs
    subst hs
    repeat' (first | (with_reducible refine hY _ ?_; clear hY Y) | ((with_reducible first | refine av rfl (aD fun K' hK' => ab ?_) | refine hK' _ (ac fun Y hY => ab ?_) | refine ac fun Y hY => ab ?_ | refine ae tk0 bT (ac fun Y hY => ab ?_) | refine ab ?_ | refine ap ?_); (try clear hK' K'); (try dsimp only [aop]); try simp only [go_sem, ↓reduceIte, Nat.reduceEqDiff, Nat.reduceLT, Nat.reduceLeDiff, Nat.reduceAdd, Nat.reduceSub, Nat.reduceMul, Nat.reduceBEq, Nat.reduceBNe, Nat.reducePow, Int.reduceToNat, Int.reduceLE, Int.reduceLT, Int.reduceMul, Int.reduceEq, Int.reducePow, Int.reduceAdd, Int.reduceSub, Int.reduceNeg, reduceCtorEq, bT, Tryz.results11, hlt']) | (with_reducible first | refine ai ?_ | refine al ?_ | refine am ?_ | refine aL fun K hK => ?_ | refine ar ?_ | refine bN ?_ | refine bo ?_ | refine az ?_ | refine bq ?_) | (with_reducible refine hK _ ?_; clear hK K) | ((with_reducible refine ah ?_ ?_); (· decide)))
    rfl
  have hlt' : ((a : Int) < (l.length : Int)) = True := eq_true (by omega)
  have h0 : 0 < (l.drop a).length := by rw [List.length_drop]; omega
  have h1 := qQ l blanksL t4 a ha (by omega)
  by_cases c1 : 0 < bP blanksL (l.drop a)
  · have hst : dC a (l.drop a) = .skip (bP blanksL (l.drop a)) := if_pos c1
    have hn := gq hst
    rw [fd h0 hst] at hs
    have c1' : ((0 : Int) < (bP blanksL (l.drop a) : Int)) = True := eq_true (by omega)
    generalize bP blanksL (l.drop a) = n at *
    rw [List.length_drop] at hn
    rw [List.drop_drop] at hs
    have hw1 : IntKind.i64.wrap ((a : Int) + (n : Int)) = ((a + n : Nat) : Int) := by rw [bO (by omega) (by omega)]; omega
    repeat' (first | (with_reducible refine hY _ ?_; clear hY Y) | ((with_reducible first | refine av rfl (aD fun K' hK' => ab ?_) | refine hK' _ (ac fun Y hY => ab ?_) | refine ac fun Y hY => ab ?_ | refine ae tk0 bT (ac fun Y hY => ab ?_) | refine ab ?_); (try clear hK' K'); (try dsimp only [aop]); try simp only [go_sem, ↓reduceIte, Nat.reduceEqDiff, Nat.reduceLT, Nat.reduceLeDiff, Nat.reduceAdd, Nat.reduceSub, Nat.reduceMul, Nat.reduceBEq, Nat.reduceBNe, Nat.reducePow, Int.reduceToNat, Int.reduceLE, Int.reduceLT, Int.reduceMul, Int.reduceEq, Int.reducePow, Int.reduceAdd, Int.reduceSub, Int.reduceNeg, reduceCtorEq, bT, Tryz.results11, hlt', lN, c1', hw1]) | (with_reducible first | refine ai ?_ | refine al ?_ | refine am ?_ | refine aL fun K hK => ?_ | refine ax ?_ | refine bN ?_ | refine bo ?_ | refine aq ?_ | refine aC ?_ | refine bq ?_) | (with_reducible refine hK _ ?_; clear hK K) | ((with_reducible refine ah ?_ ?_); (· decide)) | (with_reducible refine aa (h1) ?_))
    refine bA [0, 4, 5] (by simp only [go_sem, ↓reduceIte, Nat.reduceEqDiff, Nat.reduceLT, Nat.reduceLeDiff, Nat.reduceAdd, Nat.reduceSub, Nat.reduceMul, Nat.reduceBEq, Nat.reduceBNe, Nat.reducePow, Int.reduceToNat, Int.reduceLE, Int.reduceLT, Int.reduceMul, Int.reduceEq, Int.reducePow, Int.reduceAdd, Int.reduceSub, Int.reduceNeg, reduceCtorEq]; exact rfl) ?_
    exact ih (acc, a + n) ⟨by simp only; omega, by simp only; omega, hs⟩ (by simp only; omega)
  have c1' : ((0 : Int) < (bP blanksL (l.drop a) : Int)) = False := eq_false (by omega)
  have h2 := qO (l.drop a) slashL
  by_cases c2 : slashL.isPrefixOf (l.drop a) = true
  · have hst : dC a (l.drop a) = .skip ((l.drop a).takeWhile (· != 10)).length := by unfold dC; rw [if_neg c1, if_pos c2]
    have hn := gq hst
    rw [fd h0 hst] at hs
    rw [c2] at h2
    have h3 := Ad (l.drop a) 10 (by rw [List.length_drop]; omega)
    unfold tP at h3
    generalize ((l.drop a).takeWhile (· != 10)) = m at *
    rw [List.length_drop] at hn
    rw [List.drop_drop] at hs
    have hw1 : IntKind.i64.wrap ((a : Int) + (m.length : Int)) = ((a + m.length : Nat) : Int) := by rw [bO (by omega) (by omega)]; omega
    repeat' (first | (with_reducible refine hY _ ?_; clear hY Y) | ((with_reducible first | refine av rfl (aD fun K' hK' => ab ?_) | refine hK' _ (ac fun Y hY => ab ?_) | refine ac fun Y hY => ab ?_ | refine ae tk0 bT (ac fun Y hY => ab ?_) | refine ab ?_); (try clear hK' K'); (try dsimp only [aop]); try simp only [go_sem, ↓reduceIte, Nat.reduceEqDiff, Nat.reduceLT, Nat.reduceLeDiff, Nat.reduceAdd, Nat.reduceSub, Nat.reduceMul, Nat.reduceBEq, Nat.reduceBNe, Nat.reducePow, Int.reduceToNat, Int.reduceLE, Int.reduceLT, Int.reduceMul, Int.reduceEq, Int.reducePow, Int.reduceAdd, Int.reduceSub, Int.reduceNeg, reduceCtorEq, bT, Tryz.results11, hlt', lN, rn, uB, c1', hw1]) | (with_reducible first | refine ai ?_ | refine al ?_ | refine am ?_ | refine aL fun K hK => ?_ | refine ax ?_ | refine ar ?_ | refine bN ?_ | refine bo ?_ | refine aq ?_ | refine aC ?_ | refine bq ?_) | (with_reducible refine hK _ ?_; clear hK K) | ((with_reducible refine ah ?_ ?_); (· decide)) | (with_reducible refine bQ ?_ ?_; (· (try and_intros) <;> first | omega | assumption | (simp only [List.length_append, List.length_map, List.length_cons, List.length_nil] <;> omega))) | (with_reducible refine aa (h1) ?_) | (with_reducible refine aa (h2) ?_) | (with_reducible refine aa (h3) ?_))
    refine bA [0, 4, 5] (by simp only [go_sem, ↓reduceIte, Nat.reduceEqDiff, Nat.reduceLT, Nat.reduceLeDiff, Nat.reduceAdd, Nat.reduceSub, Nat.reduceMul, Nat.reduceBEq, Nat.reduceBNe, Nat.reducePow, Int.reduceToNat, Int.reduceLE, Int.reduceLT, Int.reduceMul, Int.reduceEq, Int.reducePow, Int.reduceAdd, Int.reduceSub, Int.reduceNeg, reduceCtorEq]; exact rfl) ?_
    exact ih (acc, a + m.length) ⟨by simp only; omega, by simp only; omega, hs⟩ (by simp only; omega)
  have h3 := xJ l a hlt (by omega)
  have herr := qq a (l.drop a)
  rw [Bool.eq_false_iff.2 c2] at h2
  by_cases c3 : (dT a (l.drop a)).2 = 0
  · have hst : dC a (l.drop a) = .tok (dT a (l.drop a)).1 := by unfold dC; rw [if_neg c1, if_neg c2, if_pos c3]
    have hn := jt hst
    rw [ij h0 hst] at hs
    rw [c3, sW] at h3
    generalize (dT a (l.drop a)).1 = t at *
    rw [List.length_drop] at hn
    rw [List.drop_drop] at hs
    have hw1 : IntKind.i64.wrap ((a : Int) + (t.text.length : Int)) = ((a + t.text.length : Nat) : Int) := by rw [bO (by omega) (by omega)]; omega
    have hfl := fH (f := ee) (k := 3) (fun _ => rfl) acc
    repeat' (first | (with_reducible refine hY _ ?_; clear hY Y) | ((with_reducible first | refine av rfl (aD fun K' hK' => ab ?_) | refine hK' _ (ac fun Y hY => ab ?_) | refine ac fun Y hY => ab ?_ | refine ae tk0 bT (ac fun Y hY => ab ?_) | refine ab ?_); (try clear hK' K'); (try dsimp only [aop]); try simp only [go_sem, ↓reduceIte, Nat.reduceEqDiff, Nat.reduceLT, Nat.reduceLeDiff, Nat.reduceAdd, Nat.reduceSub, Nat.reduceMul, Nat.reduceBEq, Nat.reduceBNe, Nat.reducePow, Int.reduceToNat, Int.reduceLE, Int.reduceLT, Int.reduceMul, Int.reduceEq, Int.reducePow, Int.reduceAdd, Int.reduceSub, Int.reduceNeg, reduceCtorEq, bT, Tryz.results11, hlt', lN, rn, c1', hw1, hfl]) | (with_reducible first | refine ai ?_ | refine al ?_ | refine am ?_ | refine aL fun K hK => ?_ | refine ax ?_ | refine ar ?_ | refine aO ?_ | refine aq ?_ | refine aC ?_) | (with_reducible refine hK _ ?_; clear hK K) | ((with_reducible refine ah ?_ ?_); (· decide)) | (with_reducible refine bQ ?_ ?_; (· (try and_intros) <;> first | omega | assumption | (simp only [List.length_append, List.length_map, List.length_cons, List.length_nil] <;> omega))) | (with_reducible refine aa (h1) ?_) | (with_reducible refine aa (h2) ?_) | (with_reducible refine aa (h3) ?_) | (with_reducible refine be (pE) ?_))
    refine bA [0, 4, 5] (by simp only [go_sem, ↓reduceIte, Nat.reduceEqDiff, Nat.reduceLT, Nat.reduceLeDiff, Nat.reduceAdd, Nat.reduceSub, Nat.reduceMul, Nat.reduceBEq, Nat.reduceBNe, Nat.reducePow, Int.reduceToNat, Int.reduceLE, Int.reduceLT, Int.reduceMul, Int.reduceEq, Int.reducePow, Int.reduceAdd, Int.reduceSub, Int.reduceNeg, reduceCtorEq]; exact rfl) ?_
    refine dw (ih (acc ++ [t], a + t.text.length) ⟨by simp only; omega, (by simp only [List.length_append, List.length_cons, List.length_nil]; omega), hs⟩ (by simp only; omega)) ?_
    simp
  · have hst : dC a (l.drop a) = .err (dT a (l.drop a)).2 := by unfold dC; rw [if_neg c1, if_neg c2, if_neg c3]
    rw [jH h0 hst] at hs
    rw [eA c3] at h3
    generalize (dT a (l.drop a)).1 = t at *
    generalize (dT a (l.drop a)).2 = e at *
    repeat' (first | (with_reducible refine hY _ ?_; clear hY Y) | ((with_reducible first | refine av rfl (aD fun K' hK' => ab ?_) | refine hK' _ (ac fun Y hY => ab ?_) | refine ac fun Y hY => ab ?_ | refine ae tk0 bT (ac fun Y hY => ab ?_) | refine ab ?_ | refine ap ?_); (try clear hK' K'); (try dsimp only [aop]); try simp only [go_sem, ↓reduceIte, Nat.reduceEqDiff, Nat.reduceLT, Nat.reduceLeDiff, Nat.reduceAdd, Nat.reduceSub, Nat.reduceMul, Nat.reduceBEq, Nat.reduceBNe, Nat.reducePow, Int.reduceToNat, Int.reduceLE, Int.reduceLT, Int.reduceMul, Int.reduceEq, Int.reducePow, Int.reduceAdd, Int.reduceSub, Int.reduceNeg, reduceCtorEq, bT, Tryz.results11, hlt', lN, rn, c1']) | (with_reducible first | refine ai ?_ | refine al ?_ | refine am ?_ | refine aL fun K hK => ?_ | refine ax ?_ | refine ar ?_ | refine bg ?_ | refine bL ?_ | refine aq ?_ | refine aC ?_ | refine az ?_) | (with_reducible refine hK _ ?_; clear hK K) | ((with_reducible refine ah ?_ ?_); (· decide)) | (with_reducible refine bQ ?_ ?_; (· (try and_intros) <;> first | omega | assumption | (simp only [List.length_append, List.length_map, List.length_cons, List.length_nil] <;> omega))) | (with_reducible refine aa (h1) ?_) | (with_reducible refine aa (h2) ?_) | (with_reducible refine aa (h3) ?_))
    subst hs
    unfold wb lE
    rw [if_neg c3, if_neg (by simp only; omega)]
    unfold jV
    rw [eA c3]
end Go.Proofs.YtpkcgdikbjaoaaaGreatDoor
namespace Go.Proofs.YtpkcgdikbjaoaaaGreatDoor
set_option linter.unusedSimpArgs false
set_option linter.unusedVariables false
open Go.RowKit
def ym (R : Res) : Prop := R.2.1 ≤ 16 ∧ (R.2.1 = 0 → R.2.2 = -1) ∧ (R.2.1 ≠ 0 → R.1 = [])
theorem mQ : ∀ (f : Nat) (acc : List Tok) (a : Nat) (r : List UInt8), ym (eQ f acc a r)
  | 0, _, _, _ => ⟨Nat.zero_le _, fun _ => rfl, fun h => absurd rfl h⟩
  | f + 1, acc, a, [] => ⟨Nat.zero_le _, fun _ => rfl, fun h => absurd rfl h⟩
  | f + 1, acc, a, c :: r => by
    simp only [eQ]
    split
    · exact mQ f _ _ _
    · exact mQ f _ _ _
    · rename_i e he
      have h1 : e = (dT a (c :: r)).2 ∧ e ≠ 0 := by
        unfold dC at he
        split at he
        · cases he
        · split at he
          · cases he
          · split at he
            · cases he
            · rename_i h; cases he; exact ⟨rfl, h⟩
      refine ⟨by rw [show (([] : List Tok), e, (a : Int)).2.1 = e from rfl, h1.1]; exact qq _ _, fun h => absurd h h1.2, fun _ => rfl⟩
theorem uz (l : List UInt8) : ym (cX l) := by
  unfold cX
  split
  · exact ⟨by show 2 ≤ 16; decide, fun h => (by cases h), fun _ => rfl⟩
  · exact mQ _ _ _ _
theorem ln : ∀ (f : Nat) (acc : List Tok) (a : Nat) (r : List UInt8), (eQ f acc a r).1.length ≤ acc.length + r.length
  | 0, _, _, _ => by simp [eQ]
  | f + 1, acc, a, [] => by simp [eQ]
  | f + 1, acc, a, c :: r => by
    simp only [eQ]
    split
    · rename_i n hn
      have h1 := gq hn
      refine Nat.le_trans (ln f _ _ _) ?_
      rw [List.length_drop]; omega
    · rename_i t hn
      have h1 := jt hn
      refine Nat.le_trans (ln f _ _ _) ?_
      rw [List.length_drop, List.length_append, List.length_cons, List.length_nil]; omega
    · simp
theorem od (l : List UInt8) : (cX l).1.length ≤ 65536 := by
  unfold cX
  split
  · simp
  · refine Nat.le_trans (ln _ _ _ _) ?_
    simp only [List.length_nil]; omega
theorem pF {p : UInt8 → Bool} : ∀ {r : List UInt8} {c : UInt8}, c ∈ r.takeWhile p → p c = true
  | [], c, h => by simp at h
  | x :: r, c, h => by
    rw [List.takeWhile_cons] at h
    split at h
    · rename_i hx
      rcases List.mem_cons.1 h with rfl | h
      · exact hx
      · exact pF h
    · simp at h
theorem mX {some r : List UInt8} {c : UInt8} (h : c ∈ r.take (bP some r)) : some.contains c = true := by
  have e : r.take (bP some r) = r.takeWhile fun c => some.contains c := (List.prefix_iff_eq_take.1 (List.takeWhile_prefix _)).symm
  rw [e] at h
  exact pF h
theorem vE {a : Nat} {r : List UInt8} (h : (dT a r).2 = 0) : jW (dT a r).1 := by
  revert h
  unfold dT
  split
  · rename_i h1
    split
    · intro h; cases h
    · intro _
      refine ⟨?_, fun e => ?_, fun e => ?_⟩
      · simp only; split <;> simp
      · simp only at e; split at e <;> omega
      · exfalso
        have h2 : (42 : UInt8) ∈ r.take (bP wordL r) := by rw [show r.take (bP wordL r) = [42] from e]; simp
        have h3 := mX h2
        revert h3; decide
  · split
    · rename_i h1
      split
      · intro h; cases h
      · rename_i hn
        intro _
        simp only [Bool.or_eq_true, Bool.not_eq_true', decide_eq_true_eq, not_or, Bool.not_eq_false] at hn
        refine ⟨by simp, fun _ => ⟨fun c hc => ?_, ?_⟩, fun e => ?_⟩
        · rw [← jI]; exact mX hc
        · have h2 := hn.1
          unfold o9 at h2
          simp only [Bool.and_eq_true, Bool.or_eq_true, decide_eq_true_eq] at h2
          show (r.take (bP digitsL r)).length ≤ 10
          omega
        · exfalso
          have h2 : (42 : UInt8) ∈ r.take (bP digitsL r) := by rw [show r.take (bP digitsL r) = [42] from e]; simp
          have h3 := mX h2
          revert h3; decide
    · split
      · intro _
        exact ⟨by simp, fun e => by simp at e, fun _ => rfl⟩
      · intro h; cases h
theorem lf : ∀ (f : Nat) (acc : List Tok) (a : Nat) (r : List UInt8), (∀ t ∈ acc, jW t) → ∀ t ∈ (eQ f acc a r).1, jW t
  | 0, acc, _, _, h => h
  | f + 1, acc, a, [], h => h
  | f + 1, acc, a, c :: r, h => by
    simp only [eQ]
    split
    · exact lf f _ _ _ h
    · rename_i t ht
      have h1 : t = (dT a (c :: r)).1 ∧ (dT a (c :: r)).2 = 0 := by
        unfold dC at ht
        split at ht
        · cases ht
        · split at ht
          · cases ht
          · split at ht
            · rename_i h0; cases ht; exact ⟨rfl, h0⟩
            · cases ht
      exact lf f _ _ _ fun x hx => by
        rcases List.mem_append.1 hx with hx | hx
        · exact h x hx
        · rw [List.mem_singleton.1 hx, h1.1]; exact vE h1.2
    · exact fun t ht => by simp at ht
theorem nP (l : List UInt8) : ∀ t ∈ (cX l).1, jW t := by
  unfold cX
  split
  · exact fun t ht => by simp at ht
  · exact lf _ _ _ _ fun t ht => by simp at ht
end Go.Proofs.YtpkcgdikbjaoaaaGreatDoor
namespace Go.Proofs.YtpkcgdikbjaoaaaGreatDoor
open Go.RowKit
def eS (l : Wd) : PS := ⟨(cX l).1, (l.length : Int), 0, none, nP l, od l⟩
def dG (l : Wd) : List Pc × PS := dL FU [] (eS l)
end Go.Proofs.YtpkcgdikbjaoaaaGreatDoor

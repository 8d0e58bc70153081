/- scan.Scan: what it answers, and that it does, in K. What scanL gives: its errors, its tokens. The parser's state at the beginning; programs. No program is in sight. -/
import Derived.Test.YtpkcgdikbjaoaaaDoorZ11
import Derived.Test.YtpkcgdikbjaoaaaDoorZ12
namespace Go.Proofs.YtpkcgdikbjaoaaaDoor
set_option linter.unusedSimpArgs false
set_option linter.unusedVariables false
open Go.RowKit
def blanksL : List UInt8 := [32, 9, 10]
def slashL : List UInt8 := [47, 47]
inductive uk where
  | skip (n : Nat)
  | tok (t : Tok)
  | err (e : Nat)
def cx (a : Nat) (r : List UInt8) : uk :=
  if 0 < be blanksL r then .skip (be blanksL r)
  else if slashL.isPrefixOf r then .skip (r.takeWhile (· != 10)).length
  else if (dd a r).2 = 0 then .tok (dd a r).1 else .err (dd a r).2
abbrev Res := List Tok × Nat × Int
def cM : Nat → List Tok → Nat → List UInt8 → Res
  | 0, acc, _, _ => (acc, 0, -1)
  | f + 1, acc, a, r => match r with
    | [] => (acc, 0, -1)
    | c :: r' => match cx a (c :: r') with
      | .skip n => cM f acc (a + n) ((c :: r').drop n)
      | .tok t => cM f (acc ++ [t]) (a + t.text.length) ((c :: r').drop t.text.length)
      | .err e => ([], e, (a : Int))
def cg (l : List UInt8) : Res := if 65536 < l.length then ([], 2, -1) else cM (l.length + 1) [] 0 l
theorem oB : ∀ c ∈ blanksL, c.toNat < 128 := by decide
theorem rJ : ∀ o ∈ opL, 0 < o.length := by decide
theorem nZ {a : Nat} {r : List UInt8} (h : (dd a r).2 = 0) : 0 < (dd a r).1.text.length ∧ (dd a r).1.text.length ≤ r.length ∧ (dd a r).1.at0 = a := by
  revert h
  unfold dd
  split
  · rename_i h1
    split
    · intro h; cases h
    · intro _
      have h2 : 0 < be wordL r := by
        obtain ⟨c, t, e, hc⟩ := among_pos.1 h1
        exact among_pos.2 ⟨c, t, e, by rw [lE, ← iP, hc]; rfl⟩
      have h3 := eM wordL r
      refine ⟨?_, ?_, rfl⟩
      · show 0 < (r.take _).length
        rw [List.length_take]; omega
      · show (r.take _).length ≤ _
        rw [List.length_take]; omega
  · split
    · rename_i h1
      split
      · intro h; cases h
      · intro _
        have h3 := eM digitsL r
        refine ⟨?_, ?_, rfl⟩
        · show 0 < (r.take _).length
          rw [List.length_take]; omega
        · show (r.take _).length ≤ _
          rw [List.length_take]; omega
    · split
      · rename_i o ho
        intro _
        have hm := List.mem_of_find?_eq_some ho
        have hp := List.find?_some ho
        refine ⟨rJ o hm, ?_, rfl⟩
        exact (List.isPrefixOf_iff_prefix.1 hp).length_le
      · intro h; cases h
theorem mo (a : Nat) (r : List UInt8) : (dd a r).2 ≤ 16 := by
  unfold dd
  repeat' split
  all_goals exact Nat.le_of_ble_eq_true rfl
theorem dO {a n : Nat} {r : List UInt8} (h : cx a r = .skip n) : 0 < n ∧ n ≤ r.length := by
  unfold cx at h
  split at h
  · cases h; exact ⟨by assumption, eM _ _⟩
  · split at h
    · rename_i h1
      cases h
      obtain ⟨t, rfl⟩ := List.isPrefixOf_iff_prefix.1 h1
      refine ⟨?_, (List.takeWhile_sublist _).length_le⟩
      show 0 < ((47 :: 47 :: t).takeWhile (· != 10)).length
      rw [List.takeWhile_cons, if_pos (by decide)]; simp
    · split at h <;> cases h
theorem eC {a : Nat} {t : Tok} {r : List UInt8} (h : cx a r = .tok t) : 0 < t.text.length ∧ t.text.length ≤ r.length := by
  unfold cx at h
  split at h
  · cases h
  · split at h
    · cases h
    · split at h
      · rename_i h1
        cases h
        exact ⟨(nZ h1).1, (nZ h1).2.1⟩
      · cases h
theorem eO : ∀ (f g : Nat) (acc : List Tok) (a : Nat) (r : List UInt8), r.length < f → r.length < g → cM f acc a r = cM g acc a r
  | 0, _, _, _, _, h, _ => absurd h (by omega)
  | _, 0, _, _, _, _, h => absurd h (by omega)
  | f + 1, g + 1, acc, a, [], _, _ => rfl
  | f + 1, g + 1, acc, a, c :: r, h1, h2 => by
    simp only [cM]
    split
    · rename_i n hn
      have := dO hn
      simp only [List.length_cons] at h1 h2 this
      exact eO f g _ _ _ (by rw [List.length_drop, List.length_cons]; omega) (by rw [List.length_drop, List.length_cons]; omega)
    · rename_i t hn
      have := eC hn
      simp only [List.length_cons] at h1 h2 this
      exact eO f g _ _ _ (by rw [List.length_drop, List.length_cons]; omega) (by rw [List.length_drop, List.length_cons]; omega)
    · rfl
def ee (acc : List Tok) (a : Nat) (r : List UInt8) : Res := cM (r.length + 1) acc a r
theorem ky (acc : List Tok) (a : Nat) : ee acc a [] = (acc, 0, -1) := rfl
theorem eW {acc : List Tok} {a n : Nat} {r : List UInt8} (h0 : 0 < r.length) (h : cx a r = .skip n) : ee acc a r = ee acc (a + n) (r.drop n) := by
  have hn := dO h
  cases r with
  | nil => simp at h0
  | cons c r =>
    unfold ee
    rw [cM, h]
    simp only
    apply eO <;> (rw [List.length_drop]; simp only [List.length_cons] at *; omega)
theorem kw {acc : List Tok} {a : Nat} {t : Tok} {r : List UInt8} (h0 : 0 < r.length) (h : cx a r = .tok t) : ee acc a r = ee (acc ++ [t]) (a + t.text.length) (r.drop t.text.length) := by
  have hn := eC h
  cases r with
  | nil => simp at h0
  | cons c r =>
    unfold ee
    rw [cM, h]
    simp only
    apply eO <;> (rw [List.length_drop]; simp only [List.length_cons] at *; omega)
theorem oq {acc : List Tok} {a e : Nat} {r : List UInt8} (h0 : 0 < r.length) (h : cx a r = .err e) : ee acc a r = ([], e, (a : Int)) := by
  cases r with
  | nil => simp at h0
  | cons c r =>
    unfold ee
    rw [cM, h]
def nI (R : Res) : AV := if R.2.1 = 0 then .tup [.sl (R.1.flatMap fL) R.1.length .none, .c .nilIface] else .tup [.sl [] 0 .full, mI R.2.1 R.2.2]
def aW : Nat → List Nat
  | 0 => [0]
  | 1 => [0]
  | 2 => []
  | 3 => [0]
  | 4 => [0, 4]
  | 5 => [0, 4, 5]
  | 6 => [0, 4, 5]
  | 7 => [0, 4, 5, 6]
  | 8 => [0, 4, 5, 6]
  | 9 => [0, 4, 5]
  | 10 => [0, 4, 5]
  | 11 => [0, 4, 5, 7]
  | 12 => [0, 4, 5]
  | 13 => [0, 4, 5, 10, 11]
  | 14 => [5, 11]
  | 15 => [0, 4, 5, 10]
  | 16 => [0, 4, 5, 10]
  | 17 => [4]
  | _ => []
theorem pT : (ByteArray.mk #[10]) = ByteArray.mk [10].toArray := rfl
theorem iH : (ByteArray.mk #[32, 9, 10]) = ByteArray.mk blanksL.toArray := rfl
theorem mK : (ByteArray.mk #[47, 47]) = ByteArray.mk slashL.toArray := rfl
set_option maxRecDepth 100000 in
set_option maxHeartbeats 8000000 in
theorem qv (l : List UInt8) : AFn Tryd.prog 5 [bs l] [] (nI (cg l)) [] := by
  unfold cg
  by_cases hl : 65536 < l.length
  · rw [if_pos hl]
    have hl' : ((65536 : Int) < (l.length : Int)) = True := eq_true (by omega)
    refine aM [] Tryd.func5 rfl Tryd.ntmps5 (Nat.le_of_ble_eq_true rfl) (Nat.le_of_ble_eq_true rfl) fun w0 G0 B0 Pr hB0 => ?_
    simp only [aS, aJ, List.cons_append, List.nil_append]
    repeat' (first | (with_reducible refine hY _ ?_; clear hY Y) | ((with_reducible first | refine aD rfl (aN fun K' hK' => ab ?_) | refine hK' _ (ac fun Y hY => ab ?_) | refine ac fun Y hY => ab ?_ | refine ae tk0 aW (ac fun Y hY => ab ?_) | refine ab ?_ | refine av ?_); (try clear hK' K'); (try dsimp only [aop]); try simp only [go_sem, ↓reduceIte, Nat.reduceEqDiff, Nat.reduceLT, Nat.reduceLeDiff, Nat.reduceAdd, Nat.reduceSub, Nat.reduceMul, Nat.reduceBEq, Nat.reduceBNe, Nat.reducePow, Int.reduceToNat, Int.reduceLE, Int.reduceLT, Int.reduceMul, Int.reduceEq, Int.reducePow, Int.reduceAdd, Int.reduceSub, Int.reduceNeg, reduceCtorEq, aW, Tryd.results5, hl']) | (with_reducible first | refine aj ?_ | refine ar ?_ | refine au ?_ | refine aT fun K hK => ?_ | refine aK ?_ | refine bA ?_ | refine aF ?_) | (with_reducible refine hK _ ?_; clear hK K) | ((with_reducible refine al ?_ ?_); (· decide)))
    rfl
  rw [if_neg hl]
  have hl' : ((65536 : Int) < (l.length : Int)) = False := eq_false (by omega)
  obtain ⟨R, hR⟩ : ∃ R, R = cM (l.length + 1) [] 0 l := ⟨_, rfl⟩
  rw [← hR]
  refine aM [] Tryd.func5 rfl Tryd.ntmps5 (Nat.le_of_ble_eq_true rfl) (Nat.le_of_ble_eq_true rfl) fun w0 G0 B0 Pr hB0 => ?_
  simp only [aS, aJ, List.cons_append, List.nil_append]
  repeat' (first | (with_reducible refine hY _ ?_; clear hY Y) | ((with_reducible first | refine aD rfl (aN fun K' hK' => ab ?_) | refine hK' _ (ac fun Y hY => ab ?_) | refine ac fun Y hY => ab ?_ | refine ae tk0 aW (ac fun Y hY => ab ?_)); (try clear hK' K'); (try dsimp only [aop]); try simp only [go_sem, ↓reduceIte, Nat.reduceEqDiff, Nat.reduceLT, Nat.reduceLeDiff, Nat.reduceAdd, Nat.reduceSub, Nat.reduceMul, Nat.reduceBEq, Nat.reduceBNe, Nat.reducePow, Int.reduceToNat, Int.reduceLE, Int.reduceLT, Int.reduceMul, Int.reduceEq, Int.reducePow, Int.reduceAdd, Int.reduceSub, Int.reduceNeg, reduceCtorEq, aW, Tryd.results5, hl']) | (with_reducible first | refine aj ?_ | refine ar ?_ | refine au ?_ | refine aT fun K hK => ?_ | refine aC ?_ | refine ax ?_ | refine aP ?_ | refine bZ ?_) | (with_reducible refine hK _ ?_; clear hK K) | ((with_reducible refine al ?_ ?_); (· decide)))
  refine fB (iO (b := 10060) (t := 4) 29 (by decide) (by decide) rfl rfl) ?_
  refine b7 (α := List Tok × Nat) (fun p => [(0, bs l), (4, .sl (p.1.flatMap fL) p.1.length (.tok 10060)), (5, .c (.int .i64 (p.2 : Int))), (10060, .bt p.1.length 29)])
    (fun p => p.2 ≤ l.length ∧ p.1.length ≤ p.2 ∧ ee p.1 p.2 (l.drop p.2) = R) (fun p => l.length - p.2) ([], 0) [0, 4, 5] ?_ ⟨Nat.zero_le _, Nat.zero_le _, hR.symm⟩ ?_
  · simp only [go_sem, ↓reduceIte, Nat.reduceEqDiff, Nat.reduceLT, Nat.reduceLeDiff, Nat.reduceAdd, Nat.reduceSub, Nat.reduceMul, Nat.reduceBEq, Nat.reduceBNe, Nat.reducePow, Int.reduceToNat, Int.reduceLE, Int.reduceLT, Int.reduceMul, Int.reduceEq, Int.reducePow, Int.reduceAdd, Int.reduceSub, Int.reduceNeg, reduceCtorEq] <;> rfl
  rintro ⟨acc, a⟩ ⟨ha, hacc, hs⟩ ih
  simp only at ih ha hacc hs ⊢
  clear hR
  by_cases hlt : a < l.length
  case neg =>
    have hlt' : ((a : Int) < (l.length : Int)) = False := eq_false (by omega)
    have he : l.drop a = [] := List.drop_of_length_le (by omega)
    rw [he, ky] at hs
    subst hs
    repeat' (first | (with_reducible refine hY _ ?_; clear hY Y) | ((with_reducible first | refine aD rfl (aN fun K' hK' => ab ?_) | refine hK' _ (ac fun Y hY => ab ?_) | refine ac fun Y hY => ab ?_ | refine ae tk0 aW (ac fun Y hY => ab ?_) | refine ab ?_ | refine av ?_); (try clear hK' K'); (try dsimp only [aop]); try simp only [go_sem, ↓reduceIte, Nat.reduceEqDiff, Nat.reduceLT, Nat.reduceLeDiff, Nat.reduceAdd, Nat.reduceSub, Nat.reduceMul, Nat.reduceBEq, Nat.reduceBNe, Nat.reducePow, Int.reduceToNat, Int.reduceLE, Int.reduceLT, Int.reduceMul, Int.reduceEq, Int.reducePow, Int.reduceAdd, Int.reduceSub, Int.reduceNeg, reduceCtorEq, aW, Tryd.results5, hlt']) | (with_reducible first | refine aj ?_ | refine ar ?_ | refine au ?_ | refine aT fun K hK => ?_ | refine aC ?_ | refine b3 ?_ | refine bG ?_ | refine aF ?_ | refine bH ?_) | (with_reducible refine hK _ ?_; clear hK K) | ((with_reducible refine al ?_ ?_); (· decide)))
    rfl
  have hlt' : ((a : Int) < (l.length : Int)) = True := eq_true (by omega)
  have h0 : 0 < (l.drop a).length := by rw [List.length_drop]; omega
  have h1 := lM l blanksL oB a ha (by omega)
  by_cases c1 : 0 < be blanksL (l.drop a)
  · have hst : cx a (l.drop a) = .skip (be blanksL (l.drop a)) := if_pos c1
    have hn := dO hst
    rw [eW h0 hst] at hs
    have c1' : ((0 : Int) < (be blanksL (l.drop a) : Int)) = True := eq_true (by omega)
    generalize be blanksL (l.drop a) = n at *
    rw [List.length_drop] at hn
    rw [List.drop_drop] at hs
    have hw1 : IntKind.i64.wrap ((a : Int) + (n : Int)) = ((a + n : Nat) : Int) := by rw [bX (by omega) (by omega)]; omega
    repeat' (first | (with_reducible refine hY _ ?_; clear hY Y) | ((with_reducible first | refine aD rfl (aN fun K' hK' => ab ?_) | refine hK' _ (ac fun Y hY => ab ?_) | refine ac fun Y hY => ab ?_ | refine ae tk0 aW (ac fun Y hY => ab ?_) | refine ab ?_); (try clear hK' K'); (try dsimp only [aop]); try simp only [go_sem, ↓reduceIte, Nat.reduceEqDiff, Nat.reduceLT, Nat.reduceLeDiff, Nat.reduceAdd, Nat.reduceSub, Nat.reduceMul, Nat.reduceBEq, Nat.reduceBNe, Nat.reducePow, Int.reduceToNat, Int.reduceLE, Int.reduceLT, Int.reduceMul, Int.reduceEq, Int.reducePow, Int.reduceAdd, Int.reduceSub, Int.reduceNeg, reduceCtorEq, aW, Tryd.results5, hlt', iH, c1', hw1]) | (with_reducible first | refine aj ?_ | refine ar ?_ | refine au ?_ | refine aT fun K hK => ?_ | refine aK ?_ | refine b3 ?_ | refine bG ?_ | refine ax ?_ | refine aP ?_ | refine bH ?_) | (with_reducible refine hK _ ?_; clear hK K) | ((with_reducible refine al ?_ ?_); (· decide)) | (with_reducible refine aa (h1) ?_))
    refine bI [0, 4, 5] (by simp only [go_sem, ↓reduceIte, Nat.reduceEqDiff, Nat.reduceLT, Nat.reduceLeDiff, Nat.reduceAdd, Nat.reduceSub, Nat.reduceMul, Nat.reduceBEq, Nat.reduceBNe, Nat.reducePow, Int.reduceToNat, Int.reduceLE, Int.reduceLT, Int.reduceMul, Int.reduceEq, Int.reducePow, Int.reduceAdd, Int.reduceSub, Int.reduceNeg, reduceCtorEq]; exact rfl) ?_
    exact ih (acc, a + n) ⟨by simp only; omega, by simp only; omega, hs⟩ (by simp only; omega)
  have c1' : ((0 : Int) < (be blanksL (l.drop a) : Int)) = False := eq_false (by omega)
  have h2 := lO (l.drop a) slashL
  by_cases c2 : slashL.isPrefixOf (l.drop a) = true
  · have hst : cx a (l.drop a) = .skip ((l.drop a).takeWhile (· != 10)).length := by unfold cx; rw [if_neg c1, if_pos c2]
    have hn := dO hst
    rw [eW h0 hst] at hs
    rw [c2] at h2
    have h3 := tT (l.drop a) 10 (by rw [List.length_drop]; omega)
    unfold od at h3
    generalize ((l.drop a).takeWhile (· != 10)) = m at *
    rw [List.length_drop] at hn
    rw [List.drop_drop] at hs
    have hw1 : IntKind.i64.wrap ((a : Int) + (m.length : Int)) = ((a + m.length : Nat) : Int) := by rw [bX (by omega) (by omega)]; omega
    repeat' (first | (with_reducible refine hY _ ?_; clear hY Y) | ((with_reducible first | refine aD rfl (aN fun K' hK' => ab ?_) | refine hK' _ (ac fun Y hY => ab ?_) | refine ac fun Y hY => ab ?_ | refine ae tk0 aW (ac fun Y hY => ab ?_) | refine ab ?_); (try clear hK' K'); (try dsimp only [aop]); try simp only [go_sem, ↓reduceIte, Nat.reduceEqDiff, Nat.reduceLT, Nat.reduceLeDiff, Nat.reduceAdd, Nat.reduceSub, Nat.reduceMul, Nat.reduceBEq, Nat.reduceBNe, Nat.reducePow, Int.reduceToNat, Int.reduceLE, Int.reduceLT, Int.reduceMul, Int.reduceEq, Int.reducePow, Int.reduceAdd, Int.reduceSub, Int.reduceNeg, reduceCtorEq, aW, Tryd.results5, hlt', iH, mK, pT, c1', hw1]) | (with_reducible first | refine aj ?_ | refine ar ?_ | refine au ?_ | refine aT fun K hK => ?_ | refine aK ?_ | refine aC ?_ | refine b3 ?_ | refine bG ?_ | refine ax ?_ | refine aP ?_ | refine bH ?_) | (with_reducible refine hK _ ?_; clear hK K) | ((with_reducible refine al ?_ ?_); (· decide)) | (with_reducible refine bT ?_ ?_; (· (try and_intros) <;> first | omega | assumption | (simp only [List.length_append, List.length_map, List.length_cons, List.length_nil] <;> omega))) | (with_reducible refine aa (h1) ?_) | (with_reducible refine aa (h2) ?_) | (with_reducible refine aa (h3) ?_))
    refine bI [0, 4, 5] (by simp only [go_sem, ↓reduceIte, Nat.reduceEqDiff, Nat.reduceLT, Nat.reduceLeDiff, Nat.reduceAdd, Nat.reduceSub, Nat.reduceMul, Nat.reduceBEq, Nat.reduceBNe, Nat.reducePow, Int.reduceToNat, Int.reduceLE, Int.reduceLT, Int.reduceMul, Int.reduceEq, Int.reducePow, Int.reduceAdd, Int.reduceSub, Int.reduceNeg, reduceCtorEq]; exact rfl) ?_
    exact ih (acc, a + m.length) ⟨by simp only; omega, by simp only; omega, hs⟩ (by simp only; omega)
  have h3 := qQ l a hlt (by omega)
  have herr := mo a (l.drop a)
  rw [Bool.eq_false_iff.2 c2] at h2
  by_cases c3 : (dd a (l.drop a)).2 = 0
  · have hst : cx a (l.drop a) = .tok (dd a (l.drop a)).1 := by unfold cx; rw [if_neg c1, if_neg c2, if_pos c3]
    have hn := eC hst
    rw [kw h0 hst] at hs
    rw [c3, rl] at h3
    generalize (dd a (l.drop a)).1 = t at *
    rw [List.length_drop] at hn
    rw [List.drop_drop] at hs
    have hw1 : IntKind.i64.wrap ((a : Int) + (t.text.length : Int)) = ((a + t.text.length : Nat) : Int) := by rw [bX (by omega) (by omega)]; omega
    have hfl := gy (f := fL) (k := 3) (fun _ => rfl) acc
    repeat' (first | (with_reducible refine hY _ ?_; clear hY Y) | ((with_reducible first | refine aD rfl (aN fun K' hK' => ab ?_) | refine hK' _ (ac fun Y hY => ab ?_) | refine ac fun Y hY => ab ?_ | refine ae tk0 aW (ac fun Y hY => ab ?_) | refine ab ?_); (try clear hK' K'); (try dsimp only [aop]); try simp only [go_sem, ↓reduceIte, Nat.reduceEqDiff, Nat.reduceLT, Nat.reduceLeDiff, Nat.reduceAdd, Nat.reduceSub, Nat.reduceMul, Nat.reduceBEq, Nat.reduceBNe, Nat.reducePow, Int.reduceToNat, Int.reduceLE, Int.reduceLT, Int.reduceMul, Int.reduceEq, Int.reducePow, Int.reduceAdd, Int.reduceSub, Int.reduceNeg, reduceCtorEq, aW, Tryd.results5, hlt', iH, mK, c1', hw1, hfl]) | (with_reducible first | refine aj ?_ | refine ar ?_ | refine au ?_ | refine aT fun K hK => ?_ | refine aK ?_ | refine aC ?_ | refine a8 ?_ | refine ax ?_ | refine aP ?_) | (with_reducible refine hK _ ?_; clear hK K) | ((with_reducible refine al ?_ ?_); (· decide)) | (with_reducible refine bT ?_ ?_; (· (try and_intros) <;> first | omega | assumption | (simp only [List.length_append, List.length_map, List.length_cons, List.length_nil] <;> omega))) | (with_reducible refine aa (h1) ?_) | (with_reducible refine aa (h2) ?_) | (with_reducible refine aa (h3) ?_) | (with_reducible refine bE (fR) ?_))
    refine bI [0, 4, 5] (by simp only [go_sem, ↓reduceIte, Nat.reduceEqDiff, Nat.reduceLT, Nat.reduceLeDiff, Nat.reduceAdd, Nat.reduceSub, Nat.reduceMul, Nat.reduceBEq, Nat.reduceBNe, Nat.reducePow, Int.reduceToNat, Int.reduceLE, Int.reduceLT, Int.reduceMul, Int.reduceEq, Int.reducePow, Int.reduceAdd, Int.reduceSub, Int.reduceNeg, reduceCtorEq]; exact rfl) ?_
    refine et (ih (acc ++ [t], a + t.text.length) ⟨by simp only; omega, (by simp only [List.length_append, List.length_cons, List.length_nil]; omega), hs⟩ (by simp only; omega)) ?_
    simp
  · have hst : cx a (l.drop a) = .err (dd a (l.drop a)).2 := by unfold cx; rw [if_neg c1, if_neg c2, if_neg c3]
    rw [oq h0 hst] at hs
    rw [cO c3] at h3
    generalize (dd a (l.drop a)).1 = t at *
    generalize (dd a (l.drop a)).2 = e at *
    repeat' (first | (with_reducible refine hY _ ?_; clear hY Y) | ((with_reducible first | refine aD rfl (aN fun K' hK' => ab ?_) | refine hK' _ (ac fun Y hY => ab ?_) | refine ac fun Y hY => ab ?_ | refine ae tk0 aW (ac fun Y hY => ab ?_) | refine ab ?_ | refine av ?_); (try clear hK' K'); (try dsimp only [aop]); try simp only [go_sem, ↓reduceIte, Nat.reduceEqDiff, Nat.reduceLT, Nat.reduceLeDiff, Nat.reduceAdd, Nat.reduceSub, Nat.reduceMul, Nat.reduceBEq, Nat.reduceBNe, Nat.reducePow, Int.reduceToNat, Int.reduceLE, Int.reduceLT, Int.reduceMul, Int.reduceEq, Int.reducePow, Int.reduceAdd, Int.reduceSub, Int.reduceNeg, reduceCtorEq, aW, Tryd.results5, hlt', iH, mK, c1']) | (with_reducible first | refine aj ?_ | refine ar ?_ | refine au ?_ | refine aT fun K hK => ?_ | refine aK ?_ | refine aC ?_ | refine bA ?_ | refine b6 ?_ | refine ax ?_ | refine aP ?_ | refine aF ?_) | (with_reducible refine hK _ ?_; clear hK K) | ((with_reducible refine al ?_ ?_); (· decide)) | (with_reducible refine bT ?_ ?_; (· (try and_intros) <;> first | omega | assumption | (simp only [List.length_append, List.length_map, List.length_cons, List.length_nil] <;> omega))) | (with_reducible refine aa (h1) ?_) | (with_reducible refine aa (h2) ?_) | (with_reducible refine aa (h3) ?_))
    subst hs
    unfold nI mI
    rw [if_neg c3, if_neg (by simp only; omega)]
    unfold iv
    rw [cO c3]
end Go.Proofs.YtpkcgdikbjaoaaaDoor
namespace Go.Proofs.YtpkcgdikbjaoaaaDoor
set_option linter.unusedSimpArgs false
set_option linter.unusedVariables false
open Go.RowKit
def se (R : Res) : Prop := R.2.1 ≤ 16 ∧ (R.2.1 = 0 → R.2.2 = -1) ∧ (R.2.1 ≠ 0 → R.1 = [])
theorem jS : ∀ (f : Nat) (acc : List Tok) (a : Nat) (r : List UInt8), se (cM f acc a r)
  | 0, _, _, _ => ⟨Nat.zero_le _, fun _ => rfl, fun h => absurd rfl h⟩
  | f + 1, acc, a, [] => ⟨Nat.zero_le _, fun _ => rfl, fun h => absurd rfl h⟩
  | f + 1, acc, a, c :: r => by
    simp only [cM]
    split
    · exact jS f _ _ _
    · exact jS f _ _ _
    · rename_i e he
      have h1 : e = (dd a (c :: r)).2 ∧ e ≠ 0 := by
        unfold cx at he
        split at he
        · cases he
        · split at he
          · cases he
          · split at he
            · cases he
            · rename_i h; cases he; exact ⟨rfl, h⟩
      refine ⟨by rw [show (([] : List Tok), e, (a : Int)).2.1 = e from rfl, h1.1]; exact mo _ _, fun h => absurd h h1.2, fun _ => rfl⟩
theorem tv (l : List UInt8) : se (cg l) := by
  unfold cg
  split
  · exact ⟨by show 2 ≤ 16; decide, fun h => (by cases h), fun _ => rfl⟩
  · exact jS _ _ _ _
theorem ii : ∀ (f : Nat) (acc : List Tok) (a : Nat) (r : List UInt8), (cM f acc a r).1.length ≤ acc.length + r.length
  | 0, _, _, _ => by simp [cM]
  | f + 1, acc, a, [] => by simp [cM]
  | f + 1, acc, a, c :: r => by
    simp only [cM]
    split
    · rename_i n hn
      have h1 := dO hn
      refine Nat.le_trans (ii f _ _ _) ?_
      rw [List.length_drop]; omega
    · rename_i t hn
      have h1 := eC hn
      refine Nat.le_trans (ii f _ _ _) ?_
      rw [List.length_drop, List.length_append, List.length_cons, List.length_nil]; omega
    · simp
theorem kc (l : List UInt8) : (cg l).1.length ≤ 65536 := by
  unfold cg
  split
  · simp
  · refine Nat.le_trans (ii _ _ _ _) ?_
    simp only [List.length_nil]; omega
theorem lu {p : UInt8 → Bool} : ∀ {r : List UInt8} {c : UInt8}, c ∈ r.takeWhile p → p c = true
  | [], c, h => by simp at h
  | x :: r, c, h => by
    rw [List.takeWhile_cons] at h
    split at h
    · rename_i hx
      rcases List.mem_cons.1 h with rfl | h
      · exact hx
      · exact lu h
    · simp at h
theorem jz {some r : List UInt8} {c : UInt8} (h : c ∈ r.take (be some r)) : some.contains c = true := by
  have e : r.take (be some r) = r.takeWhile fun c => some.contains c := (List.prefix_iff_eq_take.1 (List.takeWhile_prefix _)).symm
  rw [e] at h
  exact lu h
theorem pw {a : Nat} {r : List UInt8} (h : (dd a r).2 = 0) : jF (dd a r).1 := by
  revert h
  unfold dd
  split
  · rename_i h1
    split
    · intro h; cases h
    · intro _
      refine ⟨?_, fun e => ?_, fun e => ?_⟩
      · simp only; split <;> simp
      · simp only at e; split at e <;> omega
      · exfalso
        have h2 : (42 : UInt8) ∈ r.take (be wordL r) := by rw [show r.take (be wordL r) = [42] from e]; simp
        have h3 := jz h2
        revert h3; decide
  · split
    · rename_i h1
      split
      · intro h; cases h
      · rename_i hn
        intro _
        simp only [Bool.or_eq_true, Bool.not_eq_true', decide_eq_true_eq, not_or, Bool.not_eq_false] at hn
        refine ⟨by simp, fun _ => ⟨fun c hc => ?_, ?_⟩, fun e => ?_⟩
        · rw [← nk]; exact jz hc
        · have h2 := hn.1
          unfold qx at h2
          simp only [Bool.and_eq_true, Bool.or_eq_true, decide_eq_true_eq] at h2
          show (r.take (be digitsL r)).length ≤ 10
          omega
        · exfalso
          have h2 : (42 : UInt8) ∈ r.take (be digitsL r) := by rw [show r.take (be digitsL r) = [42] from e]; simp
          have h3 := jz h2
          revert h3; decide
    · split
      · intro _
        exact ⟨by simp, fun e => by simp at e, fun _ => rfl⟩
      · intro h; cases h
theorem iq : ∀ (f : Nat) (acc : List Tok) (a : Nat) (r : List UInt8), (∀ t ∈ acc, jF t) → ∀ t ∈ (cM f acc a r).1, jF t
  | 0, acc, _, _, h => h
  | f + 1, acc, a, [], h => h
  | f + 1, acc, a, c :: r, h => by
    simp only [cM]
    split
    · exact iq f _ _ _ h
    · rename_i t ht
      have h1 : t = (dd a (c :: r)).1 ∧ (dd a (c :: r)).2 = 0 := by
        unfold cx at ht
        split at ht
        · cases ht
        · split at ht
          · cases ht
          · split at ht
            · rename_i h0; cases ht; exact ⟨rfl, h0⟩
            · cases ht
      exact iq f _ _ _ fun x hx => by
        rcases List.mem_append.1 hx with hx | hx
        · exact h x hx
        · rw [List.mem_singleton.1 hx, h1.1]; exact pw h1.2
    · exact fun t ht => by simp at ht
theorem n8 (l : List UInt8) : ∀ t ∈ (cg l).1, jF t := by
  unfold cg
  split
  · exact fun t ht => by simp at ht
  · exact iq _ _ _ _ fun t ht => by simp at ht
end Go.Proofs.YtpkcgdikbjaoaaaDoor
namespace Go.Proofs.YtpkcgdikbjaoaaaDoor
open Go.RowKit
def dB (l : Wd) : PS := ⟨(cg l).1, (l.length : Int), 0, none, n8 l, kc l⟩
def cH (l : Wd) : List Pc × PS := dW FU [] (dB l)
end Go.Proofs.YtpkcgdikbjaoaaaDoor

/- The document's reader in K: calls, what is told a name: written into a statement that was handed in. The document's reader in K: blocks. -/
import Derived.Test.YtpkcgdikbjaoaaaGreatDoorZ29
import Derived.Test.YtpkcgdikbjaoaaaGreatDoorZ25
namespace Go.Proofs.YtpkcgdikbjaoaaaGreatDoor
set_option linter.unusedSimpArgs false
set_option linter.unusedVariables false
open Go.RowKit
abbrev sA (o1 o2 o3 o4 o5 : Own) (s : St) : AV := .bc (stR o1 o2 o3 o4 o5 s) 50
def dH : Nat → List Nat
  | 0 => [0, 1]
  | 1 => [0, 1]
  | 2 => [0, 1]
  | 3 => [0, 1]
  | 4 => [0, 1]
  | 5 => [0, 1]
  | 6 => [0, 1]
  | 7 => [0]
  | _ => []
set_option maxRecDepth 100000 in
set_option maxHeartbeats 4000000 in
theorem vB (r : RS) (k : Nat) (x : Wd) : AFn Tryz.prog 73 [.loc 20000 0, .loc 20001 0] [rA r, sA .full .full .full .full .full (.mk k x [] [] exZ exZ coZ asZ [] [] [] [] [])] (.tup [])
    [rA (r.call x).2, sA .none .none .full .full .full (r.call x).1] := by
  unfold RS.call
  simp only
  have h1 := dm r [99, 97, 108, 108] (by simp)
  generalize r.eat [99, 97, 108, 108] = r1 at *
  have h2 := fq r1 1 (by decide)
  generalize r1.text 1 = q1 at *
  obtain ⟨c, r2⟩ := q1
  have h3 := dm r2 [40] (by simp)
  simp only at h2 h3 ⊢
  generalize r2.eat [40] = r3 at *
  have h4 := te r3 [59]
  generalize r3.exprs [59] = q2 at *
  obtain ⟨rs, r4⟩ := q2
  have h5 := dm r4 [59] (by simp)
  simp only at h4 h5 ⊢
  generalize r4.eat [59] = r5 at *
  have h6 := te r5 [41]
  generalize r5.exprs [41] = q3 at *
  obtain ⟨gs, r6⟩ := q3
  have h7 := dm r6 [41] (by simp)
  simp only at h6 h7 ⊢
  generalize r6.eat [41] = r7 at *
  simp only [sA, stR, exA, coA, asA, exZ, coZ, asZ, cW, eV, gb, ez, List.cons_append, List.nil_append, List.map_nil, List.length_nil]
  refine aK [] Tryz.func73 rfl Tryz.ntmps73 (Nat.le_of_ble_eq_true rfl) (Nat.le_of_ble_eq_true rfl) fun w0 G0 B0 Pr hB0 => ?_
  simp only [aQ, aI, List.cons_append, List.nil_append]
  repeat' (first | (with_reducible refine hY _ ?_; clear hY Y) | ((with_reducible first | refine av rfl (aD fun K' hK' => ab ?_) | refine hK' _ (ac fun Y hY => ab ?_) | refine ae tk0 dH (ac fun Y hY => ab ?_) | refine ab ?_ | refine bX ?_); (try clear hK' K'); (try dsimp only [aop]); try simp only [go_sem, ↓reduceIte, Nat.reduceEqDiff, Nat.reduceLT, Nat.reduceLeDiff, Nat.reduceAdd, Nat.reduceSub, Nat.reduceMul, Nat.reduceBEq, Nat.reduceBNe, Nat.reducePow, Int.reduceToNat, Int.reduceLE, Int.reduceLT, Int.reduceMul, Int.reduceEq, Int.reducePow, Int.reduceAdd, Int.reduceSub, Int.reduceNeg, reduceCtorEq, dH, Tryz.results73]) | (with_reducible first | refine ai ?_ | refine al ?_ | refine am ?_ | refine aL fun K hK => ?_) | (with_reducible refine hK _ ?_; clear hK K) | (with_reducible refine aa (h1) ?_) | (with_reducible refine aa (h2) ?_) | (with_reducible refine aa (h3) ?_) | (with_reducible refine aa (h4) ?_) | (with_reducible refine aa (h5) ?_) | (with_reducible refine aa (h6) ?_) | (with_reducible refine aa (h7) ?_))
  all_goals first | rfl | exact ⟨rfl, rfl⟩
def bH : Nat → List Nat
  | 0 => [0, 1]
  | 1 => [0, 1]
  | 2 => [0, 1]
  | 3 => [0, 1, 8]
  | 4 => [0, 1]
  | 5 => [0, 1]
  | 6 => [0, 1]
  | 7 => [0, 1]
  | 8 => [0, 1]
  | 9 => [0, 1, 8]
  | 10 => [0, 1]
  | 11 => [0, 1]
  | 12 => [0, 1]
  | 13 => [0, 1]
  | 14 => [0]
  | 15 => [0, 1, 8]
  | 16 => [0, 1]
  | _ => []
set_option maxRecDepth 100000 in
set_option maxHeartbeats 4000000 in
theorem yX (r : RS) (k : Nat) (x : Wd) : AFn Tryz.prog 72 [.loc 20000 0, .loc 20001 0] [rA r, sA .full .full .full .full .full (.mk k x [] [] exZ exZ coZ asZ [] [] [] [] [])] (.tup [])
    [rA (r.what x).2.2, sA (r.what x).1.1 (r.what x).1.2.1 (r.what x).1.2.2 .full .full (r.what x).2.1] := by
  have h1 := eB r
  have hbw := dt r
  unfold RS.what
  by_cases hc : r.next = [103, 101, 116]
  · rw [if_pos hc]
    obtain ⟨_, t, ht, _⟩ := cA (by simp) hc
    have h2 := dX r.bump
    rw [cU ht] at h2
    simp only
    generalize cy r.bump = q at *
    obtain ⟨⟨ek0, en0, ex0, eks0⟩, r2⟩ := q
    have h3 := dm r2 [46] (by simp)
    simp only [exA] at h2 h3 ⊢
    generalize r2.eat [46] = r3 at *
    have h4 := fq r3 1 (by decide)
    generalize r3.text 1 = q2 at *
    obtain ⟨f0, r4⟩ := q2
    have xx0 : (r.next == [103, 101, 116]) = true := by rw [hc]; rfl
    clear hc
    generalize r.next = y at *
    simp only [sA, stR, exA, coA, asA, exZ, coZ, asZ, cW, eV, gb, ez, List.cons_append, List.nil_append, List.map_nil, List.length_nil]
    refine aK [] Tryz.func72 rfl Tryz.ntmps72 (Nat.le_of_ble_eq_true rfl) (Nat.le_of_ble_eq_true rfl) fun w0 G0 B0 Pr hB0 => ?_
    simp only [aQ, aI, List.cons_append, List.nil_append]
    repeat' (first | (with_reducible refine hY _ ?_; clear hY Y) | ((with_reducible first | refine av rfl (aD fun K' hK' => ab ?_) | refine hK' _ (ac fun Y hY => ab ?_) | refine ac fun Y hY => ab ?_ | refine ae tk0 bH (ac fun Y hY => ab ?_) | refine ab ?_ | refine bX ?_); (try clear hK' K'); (try dsimp only [aop]); try simp only [go_sem, ↓reduceIte, Nat.reduceEqDiff, Nat.reduceLT, Nat.reduceLeDiff, Nat.reduceAdd, Nat.reduceSub, Nat.reduceMul, Nat.reduceBEq, Nat.reduceBNe, Nat.reducePow, Int.reduceToNat, Int.reduceLE, Int.reduceLT, Int.reduceMul, Int.reduceEq, Int.reducePow, Int.reduceAdd, Int.reduceSub, Int.reduceNeg, reduceCtorEq, bH, Tryz.results72, hbw, xx0]) | (with_reducible first | refine ai ?_ | refine al ?_ | refine am ?_ | refine aL fun K hK => ?_ | refine ax ?_ | refine aO ?_ | refine aq ?_) | (with_reducible refine hK _ ?_; clear hK K) | ((with_reducible refine ah ?_ ?_); (· decide)) | (with_reducible refine aa (h1) ?_) | (with_reducible refine aa (h2) ?_) | (with_reducible refine aa (h3) ?_) | (with_reducible refine aa (h4) ?_) | (with_reducible refine be (aU _) ?_))
    all_goals first | rfl | exact ⟨rfl, rfl⟩
  rw [if_neg hc]
  have xx0 : (r.next == [103, 101, 116]) = false := by simpa using hc
  clear hc
  by_cases hc : r.next = [110, 101, 119]
  · rw [if_pos hc]
    obtain ⟨_, t, ht, _⟩ := cA (by simp) hc
    have h2 := dm r.bump [40] (by simp)
    rw [cU ht] at h2
    simp only
    generalize r.bump.eat [40] = r2 at *
    have h3 := oR r2 1
    generalize r2.names 1 = q at *
    obtain ⟨ns, r3⟩ := q
    have h4 := dm r3 [41] (by simp)
    simp only at h3 h4 ⊢
    generalize r3.eat [41] = r4 at *
    have xx1 : (r.next == [110, 101, 119]) = true := by rw [hc]; rfl
    clear hc
    generalize r.next = y at *
    simp only [sA, stR, exA, coA, asA, exZ, coZ, asZ, cW, eV, gb, ez, List.cons_append, List.nil_append, List.map_nil, List.length_nil]
    refine aK [] Tryz.func72 rfl Tryz.ntmps72 (Nat.le_of_ble_eq_true rfl) (Nat.le_of_ble_eq_true rfl) fun w0 G0 B0 Pr hB0 => ?_
    simp only [aQ, aI, List.cons_append, List.nil_append]
    repeat' (first | (with_reducible refine hY _ ?_; clear hY Y) | ((with_reducible first | refine av rfl (aD fun K' hK' => ab ?_) | refine hK' _ (ac fun Y hY => ab ?_) | refine ac fun Y hY => ab ?_ | refine ae tk0 bH (ac fun Y hY => ab ?_) | refine ab ?_ | refine bX ?_); (try clear hK' K'); (try dsimp only [aop]); try simp only [go_sem, ↓reduceIte, Nat.reduceEqDiff, Nat.reduceLT, Nat.reduceLeDiff, Nat.reduceAdd, Nat.reduceSub, Nat.reduceMul, Nat.reduceBEq, Nat.reduceBNe, Nat.reducePow, Int.reduceToNat, Int.reduceLE, Int.reduceLT, Int.reduceMul, Int.reduceEq, Int.reducePow, Int.reduceAdd, Int.reduceSub, Int.reduceNeg, reduceCtorEq, bH, Tryz.results72, hbw, xx0, xx1]) | (with_reducible first | refine ai ?_ | refine al ?_ | refine am ?_ | refine aL fun K hK => ?_ | refine ax ?_ | refine ar ?_ | refine aO ?_ | refine aq ?_) | (with_reducible refine hK _ ?_; clear hK K) | ((with_reducible refine ah ?_ ?_); (· decide)) | (with_reducible refine aa (h1) ?_) | (with_reducible refine aa (h2) ?_) | (with_reducible refine aa (h3) ?_) | (with_reducible refine aa (h4) ?_) | (with_reducible refine be (aU _) ?_))
    all_goals first | rfl | exact ⟨rfl, rfl⟩
  rw [if_neg hc]
  have xx1 : (r.next == [110, 101, 119]) = false := by simpa using hc
  clear hc
  by_cases hc : r.next = [99, 97, 108, 108]
  · rw [if_pos hc]
    have h2 := vB r 1 x
    have xx2 : (r.next == [99, 97, 108, 108]) = true := by rw [hc]; rfl
    clear hc
    generalize r.next = y at *
    simp only
    generalize r.call x = q at *
    obtain ⟨⟨k1, nm, fl, cl, ⟨ek, en, ex, eks⟩, ⟨vk, vn, vx, vks⟩, ⟨ck, ce, cks⟩, ⟨ak, ⟨ack, ace, acks⟩, ⟨aek, aen, aex, aeks⟩, ⟨avk, avn, avx, avks⟩, af, an, aks⟩, rs, gs, fs, bd0, el0⟩, r3⟩ := q
    simp only [sA, stR, exA, coA, asA, exZ, coZ, asZ, cW, eV, gb, ez, List.cons_append, List.nil_append, List.map_nil, List.length_nil] at h2 ⊢
    refine aK [] Tryz.func72 rfl Tryz.ntmps72 (Nat.le_of_ble_eq_true rfl) (Nat.le_of_ble_eq_true rfl) fun w0 G0 B0 Pr hB0 => ?_
    simp only [aQ, aI, List.cons_append, List.nil_append]
    repeat' (first | (with_reducible refine hY _ ?_; clear hY Y) | ((with_reducible first | refine av rfl (aD fun K' hK' => ab ?_) | refine hK' _ (ac fun Y hY => ab ?_) | refine ac fun Y hY => ab ?_ | refine ae tk0 bH (ac fun Y hY => ab ?_) | refine ab ?_ | refine bX ?_); (try clear hK' K'); (try dsimp only [aop]); try simp only [go_sem, ↓reduceIte, Nat.reduceEqDiff, Nat.reduceLT, Nat.reduceLeDiff, Nat.reduceAdd, Nat.reduceSub, Nat.reduceMul, Nat.reduceBEq, Nat.reduceBNe, Nat.reducePow, Int.reduceToNat, Int.reduceLE, Int.reduceLT, Int.reduceMul, Int.reduceEq, Int.reducePow, Int.reduceAdd, Int.reduceSub, Int.reduceNeg, reduceCtorEq, bH, Tryz.results72, xx0, xx1, xx2]) | (with_reducible first | refine ai ?_ | refine al ?_ | refine am ?_ | refine aL fun K hK => ?_ | refine ax ?_ | refine ar ?_ | refine aO ?_ | refine aq ?_) | (with_reducible refine hK _ ?_; clear hK K) | ((with_reducible refine ah ?_ ?_); (· decide)) | (with_reducible refine aa (h1) ?_) | (with_reducible refine aa (h2) ?_) | (with_reducible refine be (aU _) ?_))
    all_goals first | rfl | exact ⟨rfl, rfl⟩
  rw [if_neg hc]
  have xx2 : (r.next == [99, 97, 108, 108]) = false := by simpa using hc
  clear hc
  have h2 := dX r
  generalize r.next = y at *
  simp only
  generalize cy r = q at *
  obtain ⟨⟨ek0, en0, ex0, eks0⟩, r2⟩ := q
  simp only [sA, stR, exA, coA, asA, exZ, coZ, asZ, cW, eV, gb, ez, List.cons_append, List.nil_append, List.map_nil, List.length_nil] at h2 ⊢
  refine aK [] Tryz.func72 rfl Tryz.ntmps72 (Nat.le_of_ble_eq_true rfl) (Nat.le_of_ble_eq_true rfl) fun w0 G0 B0 Pr hB0 => ?_
  simp only [aQ, aI, List.cons_append, List.nil_append]
  repeat' (first | (with_reducible refine hY _ ?_; clear hY Y) | ((with_reducible first | refine av rfl (aD fun K' hK' => ab ?_) | refine hK' _ (ac fun Y hY => ab ?_) | refine ac fun Y hY => ab ?_ | refine ae tk0 bH (ac fun Y hY => ab ?_) | refine ab ?_ | refine bX ?_); (try clear hK' K'); (try dsimp only [aop]); try simp only [go_sem, ↓reduceIte, Nat.reduceEqDiff, Nat.reduceLT, Nat.reduceLeDiff, Nat.reduceAdd, Nat.reduceSub, Nat.reduceMul, Nat.reduceBEq, Nat.reduceBNe, Nat.reducePow, Int.reduceToNat, Int.reduceLE, Int.reduceLT, Int.reduceMul, Int.reduceEq, Int.reducePow, Int.reduceAdd, Int.reduceSub, Int.reduceNeg, reduceCtorEq, bH, Tryz.results72, xx0, xx1, xx2]) | (with_reducible first | refine ai ?_ | refine al ?_ | refine am ?_ | refine aL fun K hK => ?_ | refine ar ?_ | refine aO ?_ | refine aq ?_) | (with_reducible refine hK _ ?_; clear hK K) | ((with_reducible refine ah ?_ ?_); (· decide)) | (with_reducible refine aa (h1) ?_) | (with_reducible refine aa (h2) ?_) | (with_reducible refine be (aU _) ?_))
  all_goals first | rfl | exact ⟨rfl, rfl⟩
end Go.Proofs.YtpkcgdikbjaoaaaGreatDoor
namespace Go.Proofs.YtpkcgdikbjaoaaaGreatDoor
set_option linter.unusedSimpArgs false
set_option linter.unusedVariables false
open Go.RowKit
def RtK (f : FuncId) (B : Nat) (g : RS → St × RS) : Prop := ∀ r : RS, r.mu < B → AFn Tryz.prog f [.loc 20000 0] [rA r] (.agg (stW (g r).1)) [rA (g r).2]
def RbK (f : FuncId) (B : Nat) (g : RS → List St × RS) : Prop := ∀ r : RS, r.mu < B → AFn Tryz.prog f [.loc 20000 0] [rA r] (.sl (ez (g r).1) (g r).1.length .none) [rA (g r).2]
def bE : Nat → List Nat
  | 0 => [0]
  | 1 => [0]
  | 2 => [0]
  | 3 => [0, 3]
  | 4 => [0, 3]
  | 5 => [0, 3]
  | 6 => [3]
  | _ => []
set_option maxRecDepth 100000 in
set_option maxHeartbeats 8000000 in
theorem qV {B : Nat} {g : RS → St × RS} (hg : RtK 44 B g) (hmu : ∀ r, (g r).2.mu ≤ r.mu) (hlt : ∀ r, r.mu < B → r.bad = 0 → (g r).2.mu < r.mu) : RbK 18 B (gm g) := by
  intro r hs
  have h1 := gM r [123] (by simp)
  have hm1 := eK r [123]
  unfold gm
  simp only
  generalize r.begin [123] = r1 at *
  obtain ⟨R, hR⟩ : ∃ R, R = eO g FU [] r1 := ⟨_, rfl⟩
  rw [← hR]
  have hm0 := fS r1
  refine aK [] Tryz.func18 rfl Tryz.ntmps18 (Nat.le_of_ble_eq_true rfl) (Nat.le_of_ble_eq_true rfl) fun w0 G0 B0 Pr hB0 => ?_
  simp only [aQ, aI, List.cons_append, List.nil_append]
  repeat' (first | (with_reducible refine hY _ ?_; clear hY Y) | ((with_reducible first | refine av rfl (aD fun K' hK' => ab ?_) | refine hK' _ (ac fun Y hY => ab ?_) | refine ae tk0 bE (ac fun Y hY => ab ?_) | refine ab ?_); (try clear hK' K'); (try dsimp only [aop]); try simp only [go_sem, ↓reduceIte, Nat.reduceEqDiff, Nat.reduceLT, Nat.reduceLeDiff, Nat.reduceAdd, Nat.reduceSub, Nat.reduceMul, Nat.reduceBEq, Nat.reduceBNe, Nat.reducePow, Int.reduceToNat, Int.reduceLE, Int.reduceLT, Int.reduceMul, Int.reduceEq, Int.reducePow, Int.reduceAdd, Int.reduceSub, Int.reduceNeg, reduceCtorEq, bE, Tryz.results18]) | (with_reducible first | refine ai ?_ | refine al ?_ | refine am ?_ | refine aL fun K hK => ?_ | refine aq ?_ | refine bx ?_) | (with_reducible refine hK _ ?_; clear hK K) | (with_reducible refine aa (h1) ?_))
  refine fw (gk (b := 10020) (t := 3) 50 (by decide) (by decide) rfl rfl) ?_
  refine cw (α := Nat × List St × RS) (fun p => [(0, .loc 20000 0), (3, .sl (ez p.2.1) p.2.1.length (.tok 10020)), (10020, .bt p.2.1.length 50), (20000, rA p.2.2)])
    (fun p => eO g p.1 p.2.1 p.2.2 = R ∧ p.2.2.mu < p.1 ∧ p.2.2.mu < B ∧ p.2.1.length + p.1 ≤ 80000) (fun p => p.1) (FU, [], r1) [0, 3] ?_ ⟨hR.symm, hm0, Nat.lt_of_le_of_lt hm1 hs, (by simp [FU])⟩ ?_
  · simp only [go_sem, ↓reduceIte, Nat.reduceEqDiff, Nat.reduceLT, Nat.reduceLeDiff, Nat.reduceAdd, Nat.reduceSub, Nat.reduceMul, Nat.reduceBEq, Nat.reduceBNe, Nat.reducePow, Int.reduceToNat, Int.reduceLE, Int.reduceLT, Int.reduceMul, Int.reduceEq, Int.reducePow, Int.reduceAdd, Int.reduceSub, Int.reduceNeg, reduceCtorEq] <;> rfl
  rintro ⟨f, out, r2⟩ ⟨hgo, hmf, hmB, hlen⟩ ih
  simp only at ih hgo hmf hmB hlen ⊢
  clear hR h1
  obtain ⟨f, rfl⟩ : ∃ f', f = f' + 1 := ⟨f - 1, by omega⟩
  rw [eO] at hgo
  have h1 := eB r2
  by_cases hb : r2.bad = 0
  case neg =>
    rw [if_neg (fun h => hb h.1)] at hgo
    subst hgo
    have hb' : ((r2.bad : Int) = 0) = False := eq_false (by omega)
    have h3 := fO r2 [125] (by simp)
    generalize r2.finish [125] = r3 at *
    repeat' (first | (with_reducible refine hY _ ?_; clear hY Y) | ((with_reducible first | refine av rfl (aD fun K' hK' => ab ?_) | refine hK' _ (ac fun Y hY => ab ?_) | refine bR rfl (ac fun Y hY => ab ?_) | refine ac fun Y hY => ab ?_ | refine ae tk0 bE (ac fun Y hY => ab ?_) | refine ab ?_ | refine ap ?_); (try clear hK' K'); (try dsimp only [aop]); try simp only [go_sem, ↓reduceIte, Nat.reduceEqDiff, Nat.reduceLT, Nat.reduceLeDiff, Nat.reduceAdd, Nat.reduceSub, Nat.reduceMul, Nat.reduceBEq, Nat.reduceBNe, Nat.reducePow, Int.reduceToNat, Int.reduceLE, Int.reduceLT, Int.reduceMul, Int.reduceEq, Int.reducePow, Int.reduceAdd, Int.reduceSub, Int.reduceNeg, reduceCtorEq, bE, Tryz.results18, hb']) | (with_reducible first | refine ai ?_ | refine bj rfl ?_ | refine dk ?_ ?_ | refine al ?_ | refine am ?_ | refine aL fun K hK => ?_ | refine ar ?_ | refine bN ?_ | refine bo ?_ | refine az ?_ | refine bq ?_) | (with_reducible refine hK _ ?_; clear hK K) | ((with_reducible first | refine aR ?_ ?_ | refine ah ?_ ?_); (· decide)) | (with_reducible refine aa (h3) ?_))
    all_goals first | rfl | exact ⟨rfl, rfl⟩
  have hb' : ((r2.bad : Int) = 0) = True := eq_true (by omega)
  by_cases hc : r2.next = [125]
  · rw [if_neg (fun h => h.2 hc)] at hgo
    subst hgo
    have xx0 : (r2.next == [125]) = true := by rw [hc]; rfl
    have h3 := fO r2 [125] (by simp)
    generalize r2.next = y at *
    generalize r2.finish [125] = r3 at *
    repeat' (first | (with_reducible refine hY _ ?_; clear hY Y) | ((with_reducible first | refine av rfl (aD fun K' hK' => ab ?_) | refine hK' _ (ac fun Y hY => ab ?_) | refine bR rfl (ac fun Y hY => ab ?_) | refine ac fun Y hY => ab ?_ | refine aD fun K' hK' => ab ?_ | refine ae tk0 bE (ac fun Y hY => ab ?_) | refine ab ?_ | refine ap ?_); (try clear hK' K'); (try dsimp only [aop]); try simp only [go_sem, ↓reduceIte, Nat.reduceEqDiff, Nat.reduceLT, Nat.reduceLeDiff, Nat.reduceAdd, Nat.reduceSub, Nat.reduceMul, Nat.reduceBEq, Nat.reduceBNe, Nat.reducePow, Int.reduceToNat, Int.reduceLE, Int.reduceLT, Int.reduceMul, Int.reduceEq, Int.reducePow, Int.reduceAdd, Int.reduceSub, Int.reduceNeg, reduceCtorEq, bE, Tryz.results18, hb', xx0]) | (with_reducible first | refine ai ?_ | refine aS ?_ | refine al ?_ | refine am ?_ | refine aL fun K hK => ?_ | refine ar ?_ | refine bN ?_ | refine bo ?_ | refine az ?_ | refine bq ?_) | (with_reducible refine hK _ ?_; clear hK K) | ((with_reducible first | refine aR ?_ ?_ | refine ah ?_ ?_); (· decide)) | (with_reducible refine aa (h1) ?_) | (with_reducible refine aa (h3) ?_) | (with_reducible refine be (aU _) ?_))
    all_goals first | rfl | exact ⟨rfl, rfl⟩
  · rw [if_pos ⟨hb, hc⟩] at hgo
    have xx0 : (r2.next == [125]) = false := by simpa using hc
    have h2 := hg r2 hmB
    have hm2 := hlt r2 hmB hb
    generalize r2.next = y at *
    generalize g r2 = q at *
    obtain ⟨⟨k, nm, fl, cl, ⟨ek, en, ex, eks⟩, ⟨vk, vn, vx, vks⟩, ⟨ck, ce, cks⟩, ⟨ak, ⟨ack, ace, acks⟩, ⟨aek, aen, aex, aeks⟩, ⟨avk, avn, avx, avks⟩, af, an, aks⟩, rs, gs, fs, bd0, el0⟩, r3⟩ := q
    simp only [stW, exA, coA, asA, List.cons_append, List.nil_append, List.map_cons, List.map_nil, wkA] at h2 hgo hm2
    repeat' (first | (with_reducible refine hY _ ?_; clear hY Y) | ((with_reducible first | refine av rfl (aD fun K' hK' => ab ?_) | refine hK' _ (ac fun Y hY => ab ?_) | refine bR rfl (ac fun Y hY => ab ?_) | refine ac fun Y hY => ab ?_ | refine aD fun K' hK' => ab ?_ | refine ae tk0 bE (ac fun Y hY => ab ?_) | refine ab ?_); (try clear hK' K'); (try dsimp only [aop]); try simp only [go_sem, ↓reduceIte, Nat.reduceEqDiff, Nat.reduceLT, Nat.reduceLeDiff, Nat.reduceAdd, Nat.reduceSub, Nat.reduceMul, Nat.reduceBEq, Nat.reduceBNe, Nat.reducePow, Int.reduceToNat, Int.reduceLE, Int.reduceLT, Int.reduceMul, Int.reduceEq, Int.reducePow, Int.reduceAdd, Int.reduceSub, Int.reduceNeg, reduceCtorEq, bE, Tryz.results18, hb', xx0, kC]) | (with_reducible first | refine ai ?_ | refine aS ?_ | refine al ?_ | refine am ?_ | refine aL fun K hK => ?_ | refine ax ?_ | refine aO ?_ | refine aq ?_ | refine aC ?_) | (with_reducible refine hK _ ?_; clear hK K) | ((with_reducible first | refine aR ?_ ?_ | refine ah ?_ ?_); (· decide)) | (with_reducible refine bQ ?_ ?_; (· (try and_intros) <;> first | omega | assumption | (simp only [List.length_append, List.length_map, List.length_cons, List.length_nil] <;> omega))) | (with_reducible refine aa (h1) ?_) | (with_reducible refine aa (h2) ?_) | (with_reducible refine be (aU _) ?_))
    refine bA [0, 3] (by simp only [go_sem, ↓reduceIte, Nat.reduceEqDiff, Nat.reduceLT, Nat.reduceLeDiff, Nat.reduceAdd, Nat.reduceSub, Nat.reduceMul, Nat.reduceBEq, Nat.reduceBNe, Nat.reducePow, Int.reduceToNat, Int.reduceLE, Int.reduceLT, Int.reduceMul, Int.reduceEq, Int.reducePow, Int.reduceAdd, Int.reduceSub, Int.reduceNeg, reduceCtorEq]; exact rfl) ?_
    refine dw (ih (f, _, r3) ⟨hgo, by simp only; omega, by simp only; omega, (by simp only [List.length_append, List.length_cons, List.length_nil]; omega)⟩ (by simp only; omega)) ?_
    simp only [mf, ez, stW, exA, coA, asA, List.cons_append, List.nil_append, List.map_cons, List.map_nil, wkA, List.append_nil, List.length_append, List.length_cons, List.length_nil]
end Go.Proofs.YtpkcgdikbjaoaaaGreatDoor

/- The document's reader in K: products, expressions. -/
import Derived.Test.YtpkcgdikbjaoaaaGreatDoorZ26
namespace Go.Proofs.YtpkcgdikbjaoaaaGreatDoor
set_option linter.unusedSimpArgs false
set_option linter.unusedVariables false
open Go.RowKit
def jd (prod : RS → Ex × RS) (m : Bool) (r1 : RS) : Ex × RS :=
  if r1.kind = 3 then
    if r1.times then
      let p := prod (r1.deeper.number.2.eat [42])
      (.mk 4 (if m then IntKind.i64.wrap (0 - r1.deeper.number.1) else r1.deeper.number.1) [] [p.1], p.2.up)
    else (.mk 0 (if m then IntKind.i64.wrap (0 - r1.number.1) else r1.number.1) [] [], r1.number.2)
  else if m = false ∧ r1.next = [40] then
    let p := gw prod (r1.begin [40])
    (p.1, p.2.finish [41])
  else
    let r6 := if m then r1.amiss 11 else r1
    (.mk 1 0 (r6.text 1).1 [], (r6.text 1).2)
theorem uW (prod : RS → Ex × RS) {r : RS} (h : r.next = [45]) : fV prod r = jd prod true r.bump := by
  unfold fV jd
  simp only [h, if_true]
  split
  · split <;> rfl
  · rw [if_neg (by simp), if_neg (by simp)]
theorem u1 (prod : RS → Ex × RS) {r : RS} (h : ¬ r.next = [45]) : fV prod r = jd prod false r := by
  unfold fV jd
  simp only [h, if_false, Bool.false_eq_true, not_false_eq_true, true_and]
  split
  · split <;> rfl
  · rfl
theorem tl {r : RS} (h : r.kind = 3) : r.deeper.number.2.mu < r.mu := by
  obtain ⟨hb, t, ht, _⟩ := jb (by decide) h
  have h0 := mE hb ht
  by_cases hd : r.depth = 50
  · have hz : r.deeper.mu = 0 := by
      apply lL
      unfold RS.deeper
      rw [if_pos hd]
      unfold RS.down RS.amiss
      rw [hb]
      simp
    have := iM r.deeper
    omega
  · have hk : r.deeper.kind = 3 := by
      unfold RS.deeper
      rw [if_neg hd]
      exact h
    have h1 := lz (by decide) hk
    have h2 := iR r
    unfold RS.number
    simp only
    omega
def au : Nat → List Nat
  | 0 => [0]
  | 1 => [0, 2]
  | 2 => [0, 2, 3]
  | 3 => [0, 2, 3]
  | 4 => [0, 2, 3]
  | 5 => [0, 2, 3]
  | 6 => [0, 2, 3, 4]
  | 7 => [0, 2, 3, 4]
  | 8 => [0, 2, 3, 4]
  | 9 => [0, 2, 3, 4, 5]
  | 10 => [0, 2, 4, 5]
  | 11 => [0, 2, 4, 5]
  | 12 => [2, 5]
  | 13 => [0, 2, 5]
  | 14 => [0, 2, 5]
  | 15 => [0, 2, 5, 6]
  | 16 => [2, 5, 6]
  | 17 => [0, 2, 3]
  | 18 => [0, 2]
  | 19 => [0, 2]
  | 20 => [0, 2, 7]
  | 21 => [2, 7]
  | 22 => [0, 2, 3]
  | 23 => [0, 2]
  | 24 => [0, 2]
  | _ => []
set_option maxRecDepth 100000 in
set_option maxHeartbeats 8000000 in
theorem yb {B : Nat} {g : RS → Ex × RS} (hg : RxK 91 B g) (hmu : ∀ r, (g r).2.mu ≤ r.mu) : RxK 91 (B + 1) (fV g) := by
  intro r0 hs
  have h1 := eB r0
  by_cases hm : r0.next = [45]
  · rw [uW g hm]
    obtain ⟨R, hR⟩ : ∃ R, R = jd g true r0.bump := ⟨_, rfl⟩
    rw [← hR]
    obtain ⟨_, t, ht, _⟩ := cA (by simp) hm
    have hm2 := cO (by simp) hm
    have hbw0 := dt r0
    rw [hm] at h1
    have he : r0.bump.l = r0.l ∧ r0.bump.i = r0.i + 1 ∧ r0.bump.end0 = r0.end0 ∧ r0.bump.depth = r0.depth ∧ r0.bump.bad = r0.bad ∧ r0.bump.at0 = r0.at0 := by
      unfold RS.bump
      rw [dif_pos (eY ht).1]
      exact ⟨rfl, rfl, rfl, rfl, rfl, rfl⟩
    obtain ⟨e1, e2, e3, e4, e5, e6⟩ := he
    refine aK [] Tryz.func91 rfl Tryz.ntmps91 (Nat.le_of_ble_eq_true rfl) (Nat.le_of_ble_eq_true rfl) fun w0 G0 B0 Pr hB0 => ?_
    simp only [aQ, aI, List.cons_append, List.nil_append]
    repeat' (first | (with_reducible refine hY _ ?_; clear hY Y) | ((with_reducible first | refine av rfl (aD fun K' hK' => ab ?_) | refine hK' _ (ac fun Y hY => ab ?_) | refine ac fun Y hY => ab ?_ | refine ae tk0 au (ac fun Y hY => ab ?_) | refine ab ?_); (try clear hK' K'); (try dsimp only [aop]); try simp only [go_sem, ↓reduceIte, Nat.reduceEqDiff, Nat.reduceLT, Nat.reduceLeDiff, Nat.reduceAdd, Nat.reduceSub, Nat.reduceMul, Nat.reduceBEq, Nat.reduceBNe, Nat.reducePow, Int.reduceToNat, Int.reduceLE, Int.reduceLT, Int.reduceMul, Int.reduceEq, Int.reducePow, Int.reduceAdd, Int.reduceSub, Int.reduceNeg, reduceCtorEq, au, Tryz.results91, hbw0, beq_self_eq_true]) | (with_reducible first | refine ai ?_ | refine al ?_ | refine am ?_ | refine aL fun K hK => ?_ | refine ax ?_) | (with_reducible refine hK _ ?_; clear hK K) | ((with_reducible refine ah ?_ ?_); (· decide)) | (with_reducible refine aa (h1) ?_) | (with_reducible refine be (aU _) ?_))
    have hs1 : r0.bump.mu < B + 1 := by omega
    clear hm2 ht hm h1 hbw0
    generalize r0.bump = r1 at *
    rw [← e1, ← e2, ← e3, ← e4, ← e5, ← e6]
    clear e1 e2 e3 e4 e5 e6 hs
    have h2 := my r1
    unfold jd at hR
    by_cases hk : r1.kind = 3
    · rw [if_pos hk] at hR
      have hlt := tl hk
      rw [hk] at h2
      have hsh := r1.short
      have hhi := r1.hi
      have hbw := dt r1
      have hfl := fH (f := ee) (k := 3) (fun _ => rfl) r1.l
      cases htm : r1.times
      case true =>
        simp only [htm, if_true] at hR
        unfold RS.times at htm
        split at htm
        · rename_i t2 ht2
          obtain ⟨hi2, hti2⟩ := List.getElem?_eq_some_iff.1 ht2
          have hlt2 : (((r1.i + 1 : Nat) : Int) < (r1.l.length : Int)) = True := eq_true (by omega)
          have hg2 := ja (f := ee) (k := 3) (fun _ => rfl) hi2 2 (by decide)
          rw [hti2] at hg2
          have h3 := lY r1
          have h4 := ik r1.deeper
          have h5 := dm r1.deeper.number.2 [42] (by simp)
          have hm := cr r1.deeper.number.2 [42]
          have h6 := hg (r1.deeper.number.2.eat [42]) (by omega)
          generalize r1.deeper = r2 at *
          generalize r2.number = q2 at *
          obtain ⟨n0, r3⟩ := q2
          simp only at h4 h5 h6 hm hR
          generalize r3.eat [42] = r4 at *
          generalize g r4 = q4 at *
          obtain ⟨⟨k4, n4, x4, ks4⟩, r5⟩ := q4
          simp only [exA] at h6
          subst hR
          clear hlt hm hti2 ht2 hs1 hk
          repeat' (first | (with_reducible refine hY _ ?_; clear hY Y) | ((with_reducible first | refine av rfl (aD fun K' hK' => ab ?_) | refine hK' _ (ac fun Y hY => ab ?_) | refine ac fun Y hY => ab ?_ | refine ae tk0 au (ac fun Y hY => ab ?_) | refine ab ?_ | refine ap ?_ | refine bY rfl (bI fun K' hK' => ab ?_) | refine hK' _ _ (ac fun Y hY => ab ?_) | refine cJ rfl (ac fun Y hY => ab ?_) | refine bI fun K' hK' => ab ?_); (try clear hK' K'); (try dsimp only [aop]); try simp only [go_sem, ↓reduceIte, Nat.reduceEqDiff, Nat.reduceLT, Nat.reduceLeDiff, Nat.reduceAdd, Nat.reduceSub, Nat.reduceMul, Nat.reduceBEq, Nat.reduceBNe, Nat.reducePow, Int.reduceToNat, Int.reduceLE, Int.reduceLT, Int.reduceMul, Int.reduceEq, Int.reducePow, Int.reduceAdd, Int.reduceSub, Int.reduceNeg, reduceCtorEq, au, Tryz.results91, hbw, hfl, hlt2, hg2, htm]) | (with_reducible first | refine ai ?_ | refine aS ?_ | refine al ?_ | refine am ?_ | refine aL fun K hK => ?_ | refine ax ?_ | refine ar ?_ | refine bg ?_ | refine aC ?_ | refine az ?_ | refine bl ?_ | refine dq fun K hK => ?_) | (with_reducible refine hK _ ?_; clear hK K) | (with_reducible refine hK _ _ ?_ ?_; (· kernel_rfl); clear hK K) | ((with_reducible first | refine aR ?_ ?_ | refine ah ?_ ?_); (· decide)) | (with_reducible refine bm tk0 au ?_ ?_; (· kernel_rfl)) | ((with_reducible refine bV (fun hc => ?_) (fun hc => ?_)) <;> (try simp only [decide_eq_true_eq, decide_eq_false_iff_not, Bool.not_true, Bool.not_false, Bool.not_eq_true', Bool.not_eq_false'] at hc) <;> (try (exfalso; omega))) | (with_reducible refine bQ ?_ ?_; (· (try and_intros) <;> first | omega | assumption | (simp only [List.length_append, List.length_map, List.length_cons, List.length_nil] <;> omega))) | (with_reducible refine aa (h2) ?_) | (with_reducible refine aa (h3) ?_) | (with_reducible refine aa (h4) ?_) | (with_reducible refine aa (h5) ?_) | (with_reducible refine aa (h6) ?_) | (with_reducible refine be (aU _) ?_))
          all_goals first | rfl | exact ⟨rfl, rfl⟩
        · cases htm
      case false =>
        simp only [htm, Bool.false_eq_true, if_false] at hR
        have h4 := ik r1
        generalize r1.number = q2 at *
        obtain ⟨n0, r3⟩ := q2
        simp only at h4 hR
        subst hR
        unfold RS.times at htm
        split at htm
        · rename_i t2 ht2
          obtain ⟨hi2, hti2⟩ := List.getElem?_eq_some_iff.1 ht2
          have hlt2 : (((r1.i + 1 : Nat) : Int) < (r1.l.length : Int)) = True := eq_true (by omega)
          have hg2 := ja (f := ee) (k := 3) (fun _ => rfl) hi2 2 (by decide)
          rw [hti2] at hg2
          clear hlt hti2 ht2 hs1 hk
          repeat' (first | (with_reducible refine hY _ ?_; clear hY Y) | ((with_reducible first | refine av rfl (aD fun K' hK' => ab ?_) | refine hK' _ (ac fun Y hY => ab ?_) | refine ac fun Y hY => ab ?_ | refine ae tk0 au (ac fun Y hY => ab ?_) | refine ab ?_ | refine ap ?_ | refine bY rfl (bI fun K' hK' => ab ?_) | refine hK' _ _ (ac fun Y hY => ab ?_) | refine cJ rfl (ac fun Y hY => ab ?_) | refine bI fun K' hK' => ab ?_); (try clear hK' K'); (try dsimp only [aop]); try simp only [go_sem, ↓reduceIte, Nat.reduceEqDiff, Nat.reduceLT, Nat.reduceLeDiff, Nat.reduceAdd, Nat.reduceSub, Nat.reduceMul, Nat.reduceBEq, Nat.reduceBNe, Nat.reducePow, Int.reduceToNat, Int.reduceLE, Int.reduceLT, Int.reduceMul, Int.reduceEq, Int.reducePow, Int.reduceAdd, Int.reduceSub, Int.reduceNeg, reduceCtorEq, au, Tryz.results91, hbw, hfl, hlt2, hg2, htm]) | (with_reducible first | refine ai ?_ | refine aS ?_ | refine al ?_ | refine am ?_ | refine aL fun K hK => ?_ | refine ax ?_ | refine ar ?_ | refine bg ?_ | refine aC ?_ | refine az ?_ | refine bl ?_ | refine dq fun K hK => ?_) | (with_reducible refine hK _ ?_; clear hK K) | (with_reducible refine hK _ _ ?_ ?_; (· kernel_rfl); clear hK K) | ((with_reducible first | refine aR ?_ ?_ | refine ah ?_ ?_); (· decide)) | (with_reducible refine bm tk0 au ?_ ?_; (· kernel_rfl)) | ((with_reducible refine bV (fun hc => ?_) (fun hc => ?_)) <;> (try simp only [decide_eq_true_eq, decide_eq_false_iff_not, Bool.not_true, Bool.not_false, Bool.not_eq_true', Bool.not_eq_false'] at hc) <;> (try (exfalso; omega))) | (with_reducible refine bQ ?_ ?_; (· (try and_intros) <;> first | omega | assumption | (simp only [List.length_append, List.length_map, List.length_cons, List.length_nil] <;> omega))) | (with_reducible refine aa (h2) ?_) | (with_reducible refine aa (h4) ?_) | (with_reducible refine be (aU _) ?_))
          all_goals first | rfl | exact ⟨rfl, rfl⟩
        · rename_i ht2
          have hge := List.getElem?_eq_none_iff.1 ht2
          have hlt2 : (((r1.i + 1 : Nat) : Int) < (r1.l.length : Int)) = False := eq_false (by omega)
          clear hlt ht2 hs1 hk
          repeat' (first | (with_reducible refine hY _ ?_; clear hY Y) | ((with_reducible first | refine av rfl (aD fun K' hK' => ab ?_) | refine hK' _ (ac fun Y hY => ab ?_) | refine ac fun Y hY => ab ?_ | refine ae tk0 au (ac fun Y hY => ab ?_) | refine ab ?_ | refine ap ?_ | refine bY rfl (bI fun K' hK' => ab ?_) | refine hK' _ _ (ac fun Y hY => ab ?_) | refine cJ rfl (ac fun Y hY => ab ?_)); (try clear hK' K'); (try dsimp only [aop]); try simp only [go_sem, ↓reduceIte, Nat.reduceEqDiff, Nat.reduceLT, Nat.reduceLeDiff, Nat.reduceAdd, Nat.reduceSub, Nat.reduceMul, Nat.reduceBEq, Nat.reduceBNe, Nat.reducePow, Int.reduceToNat, Int.reduceLE, Int.reduceLT, Int.reduceMul, Int.reduceEq, Int.reducePow, Int.reduceAdd, Int.reduceSub, Int.reduceNeg, reduceCtorEq, au, Tryz.results91, hbw, hlt2]) | (with_reducible first | refine ai ?_ | refine bj rfl ?_ | refine dk ?_ ?_ | refine al ?_ | refine am ?_ | refine aL fun K hK => ?_ | refine ax ?_ | refine ar ?_ | refine bg ?_ | refine aC ?_ | refine az ?_ | refine bl ?_ | refine dq fun K hK => ?_) | (with_reducible refine hK _ ?_; clear hK K) | (with_reducible refine hK _ _ ?_ ?_; (· kernel_rfl); clear hK K) | ((with_reducible first | refine aR ?_ ?_ | refine ah ?_ ?_); (· decide)) | (with_reducible refine bm tk0 au ?_ ?_; (· kernel_rfl)) | ((with_reducible refine bV (fun hc => ?_) (fun hc => ?_)) <;> (try simp only [decide_eq_true_eq, decide_eq_false_iff_not, Bool.not_true, Bool.not_false, Bool.not_eq_true', Bool.not_eq_false'] at hc) <;> (try (exfalso; omega))) | (with_reducible refine aa (h2) ?_) | (with_reducible refine aa (h4) ?_))
          all_goals first | rfl | exact ⟨rfl, rfl⟩
    rw [if_neg hk] at hR
    have hk' : ((r1.kind : Int) = 3) = False := eq_false (by omega)
    generalize r1.kind = kk at *
    rw [if_neg (by simp)] at hR
    simp only [if_true] at hR
    have h5 := iw r1 11
    generalize r1.amiss 11 = r6 at *
    have h6 := fq r6 1 (by decide)
    generalize r6.text 1 = q at *
    subst hR
    repeat' (first | (with_reducible refine hY _ ?_; clear hY Y) | ((with_reducible first | refine av rfl (aD fun K' hK' => ab ?_) | refine hK' _ (ac fun Y hY => ab ?_) | refine bR rfl (ac fun Y hY => ab ?_) | refine ac fun Y hY => ab ?_ | refine ae tk0 au (ac fun Y hY => ab ?_) | refine ab ?_ | refine ap ?_); (try clear hK' K'); (try dsimp only [aop]); try simp only [go_sem, ↓reduceIte, Nat.reduceEqDiff, Nat.reduceLT, Nat.reduceLeDiff, Nat.reduceAdd, Nat.reduceSub, Nat.reduceMul, Nat.reduceBEq, Nat.reduceBNe, Nat.reducePow, Int.reduceToNat, Int.reduceLE, Int.reduceLT, Int.reduceMul, Int.reduceEq, Int.reducePow, Int.reduceAdd, Int.reduceSub, Int.reduceNeg, reduceCtorEq, au, Tryz.results91, hk']) | (with_reducible first | refine ai ?_ | refine bj rfl ?_ | refine dk ?_ ?_ | refine al ?_ | refine am ?_ | refine aL fun K hK => ?_ | refine ax ?_ | refine ar ?_ | refine aC ?_ | refine az ?_) | (with_reducible refine hK _ ?_; clear hK K) | ((with_reducible first | refine aR ?_ ?_ | refine ah ?_ ?_); (· decide)) | (with_reducible refine aa (h2) ?_) | (with_reducible refine aa (h5) ?_) | (with_reducible refine aa (h6) ?_))
    all_goals first | rfl | exact ⟨rfl, rfl⟩
  · rw [u1 g hm]
    obtain ⟨R, hR⟩ : ∃ R, R = jd g false r0 := ⟨_, rfl⟩
    rw [← hR]
    have hne : (r0.next == [45]) = false := by simpa using hm
    generalize r0.next = x at h1 hne hm
    refine aK [] Tryz.func91 rfl Tryz.ntmps91 (Nat.le_of_ble_eq_true rfl) (Nat.le_of_ble_eq_true rfl) fun w0 G0 B0 Pr hB0 => ?_
    simp only [aQ, aI, List.cons_append, List.nil_append]
    repeat' (first | (with_reducible refine hY _ ?_; clear hY Y) | ((with_reducible first | refine av rfl (aD fun K' hK' => ab ?_) | refine hK' _ (ac fun Y hY => ab ?_) | refine ac fun Y hY => ab ?_ | refine ae tk0 au (ac fun Y hY => ab ?_) | refine ab ?_); (try clear hK' K'); (try dsimp only [aop]); try simp only [go_sem, ↓reduceIte, Nat.reduceEqDiff, Nat.reduceLT, Nat.reduceLeDiff, Nat.reduceAdd, Nat.reduceSub, Nat.reduceMul, Nat.reduceBEq, Nat.reduceBNe, Nat.reducePow, Int.reduceToNat, Int.reduceLE, Int.reduceLT, Int.reduceMul, Int.reduceEq, Int.reducePow, Int.reduceAdd, Int.reduceSub, Int.reduceNeg, reduceCtorEq, au, Tryz.results91, hne]) | (with_reducible first | refine ai ?_ | refine al ?_ | refine am ?_ | refine aL fun K hK => ?_ | refine ar ?_ | refine aC ?_) | (with_reducible refine hK _ ?_; clear hK K) | ((with_reducible refine ah ?_ ?_); (· decide)) | (with_reducible refine aa (h1) ?_) | (with_reducible refine be (aU _) ?_))
    have hs1 := hs
    clear h1 hne hm hs
    generalize r0 = r1 at *
    have h2 := my r1
    unfold jd at hR
    by_cases hk : r1.kind = 3
    · rw [if_pos hk] at hR
      have hlt := tl hk
      rw [hk] at h2
      have hsh := r1.short
      have hhi := r1.hi
      have hbw := dt r1
      have hfl := fH (f := ee) (k := 3) (fun _ => rfl) r1.l
      cases htm : r1.times
      case true =>
        simp only [htm, if_true] at hR
        unfold RS.times at htm
        split at htm
        · rename_i t2 ht2
          obtain ⟨hi2, hti2⟩ := List.getElem?_eq_some_iff.1 ht2
          have hlt2 : (((r1.i + 1 : Nat) : Int) < (r1.l.length : Int)) = True := eq_true (by omega)
          have hg2 := ja (f := ee) (k := 3) (fun _ => rfl) hi2 2 (by decide)
          rw [hti2] at hg2
          have h3 := lY r1
          have h4 := ik r1.deeper
          have h5 := dm r1.deeper.number.2 [42] (by simp)
          have hm := cr r1.deeper.number.2 [42]
          have h6 := hg (r1.deeper.number.2.eat [42]) (by omega)
          generalize r1.deeper = r2 at *
          generalize r2.number = q2 at *
          obtain ⟨n0, r3⟩ := q2
          simp only at h4 h5 h6 hm hR
          generalize r3.eat [42] = r4 at *
          generalize g r4 = q4 at *
          obtain ⟨⟨k4, n4, x4, ks4⟩, r5⟩ := q4
          simp only [exA] at h6
          subst hR
          clear hlt hm hti2 ht2 hs1 hk
          repeat' (first | (with_reducible refine hY _ ?_; clear hY Y) | ((with_reducible first | refine av rfl (aD fun K' hK' => ab ?_) | refine hK' _ (ac fun Y hY => ab ?_) | refine ac fun Y hY => ab ?_ | refine ae tk0 au (ac fun Y hY => ab ?_) | refine ab ?_ | refine ap ?_ | refine bY rfl (bI fun K' hK' => ab ?_) | refine hK' _ _ (ac fun Y hY => ab ?_) | refine cJ rfl (ac fun Y hY => ab ?_) | refine bI fun K' hK' => ab ?_); (try clear hK' K'); (try dsimp only [aop]); try simp only [go_sem, ↓reduceIte, Nat.reduceEqDiff, Nat.reduceLT, Nat.reduceLeDiff, Nat.reduceAdd, Nat.reduceSub, Nat.reduceMul, Nat.reduceBEq, Nat.reduceBNe, Nat.reducePow, Int.reduceToNat, Int.reduceLE, Int.reduceLT, Int.reduceMul, Int.reduceEq, Int.reducePow, Int.reduceAdd, Int.reduceSub, Int.reduceNeg, reduceCtorEq, au, Tryz.results91, hbw, hfl, hlt2, hg2, htm]) | (with_reducible first | refine ai ?_ | refine aS ?_ | refine al ?_ | refine am ?_ | refine aL fun K hK => ?_ | refine ax ?_ | refine ar ?_ | refine bg ?_ | refine aC ?_ | refine az ?_ | refine bl ?_ | refine dq fun K hK => ?_) | (with_reducible refine hK _ ?_; clear hK K) | (with_reducible refine hK _ _ ?_ ?_; (· kernel_rfl); clear hK K) | ((with_reducible first | refine aR ?_ ?_ | refine ah ?_ ?_); (· decide)) | (with_reducible refine bm tk0 au ?_ ?_; (· kernel_rfl)) | ((with_reducible refine bV (fun hc => ?_) (fun hc => ?_)) <;> (try simp only [decide_eq_true_eq, decide_eq_false_iff_not, Bool.not_true, Bool.not_false, Bool.not_eq_true', Bool.not_eq_false'] at hc) <;> (try (exfalso; omega))) | (with_reducible refine bQ ?_ ?_; (· (try and_intros) <;> first | omega | assumption | (simp only [List.length_append, List.length_map, List.length_cons, List.length_nil] <;> omega))) | (with_reducible refine aa (h2) ?_) | (with_reducible refine aa (h3) ?_) | (with_reducible refine aa (h4) ?_) | (with_reducible refine aa (h5) ?_) | (with_reducible refine aa (h6) ?_) | (with_reducible refine be (aU _) ?_))
          all_goals first | rfl | exact ⟨rfl, rfl⟩
        · cases htm
      case false =>
        simp only [htm, Bool.false_eq_true, if_false] at hR
        have h4 := ik r1
        generalize r1.number = q2 at *
        obtain ⟨n0, r3⟩ := q2
        simp only at h4 hR
        subst hR
        unfold RS.times at htm
        split at htm
        · rename_i t2 ht2
          obtain ⟨hi2, hti2⟩ := List.getElem?_eq_some_iff.1 ht2
          have hlt2 : (((r1.i + 1 : Nat) : Int) < (r1.l.length : Int)) = True := eq_true (by omega)
          have hg2 := ja (f := ee) (k := 3) (fun _ => rfl) hi2 2 (by decide)
          rw [hti2] at hg2
          clear hlt hti2 ht2 hs1 hk
          repeat' (first | (with_reducible refine hY _ ?_; clear hY Y) | ((with_reducible first | refine av rfl (aD fun K' hK' => ab ?_) | refine hK' _ (ac fun Y hY => ab ?_) | refine ac fun Y hY => ab ?_ | refine ae tk0 au (ac fun Y hY => ab ?_) | refine ab ?_ | refine ap ?_ | refine bY rfl (bI fun K' hK' => ab ?_) | refine hK' _ _ (ac fun Y hY => ab ?_) | refine cJ rfl (ac fun Y hY => ab ?_) | refine bI fun K' hK' => ab ?_); (try clear hK' K'); (try dsimp only [aop]); try simp only [go_sem, ↓reduceIte, Nat.reduceEqDiff, Nat.reduceLT, Nat.reduceLeDiff, Nat.reduceAdd, Nat.reduceSub, Nat.reduceMul, Nat.reduceBEq, Nat.reduceBNe, Nat.reducePow, Int.reduceToNat, Int.reduceLE, Int.reduceLT, Int.reduceMul, Int.reduceEq, Int.reducePow, Int.reduceAdd, Int.reduceSub, Int.reduceNeg, reduceCtorEq, au, Tryz.results91, hbw, hfl, hlt2, hg2, htm]) | (with_reducible first | refine ai ?_ | refine aS ?_ | refine al ?_ | refine am ?_ | refine aL fun K hK => ?_ | refine ax ?_ | refine ar ?_ | refine bg ?_ | refine aC ?_ | refine az ?_ | refine bl ?_ | refine dq fun K hK => ?_) | (with_reducible refine hK _ ?_; clear hK K) | (with_reducible refine hK _ _ ?_ ?_; (· kernel_rfl); clear hK K) | ((with_reducible first | refine aR ?_ ?_ | refine ah ?_ ?_); (· decide)) | (with_reducible refine bm tk0 au ?_ ?_; (· kernel_rfl)) | ((with_reducible refine bV (fun hc => ?_) (fun hc => ?_)) <;> (try simp only [decide_eq_true_eq, decide_eq_false_iff_not, Bool.not_true, Bool.not_false, Bool.not_eq_true', Bool.not_eq_false'] at hc) <;> (try (exfalso; omega))) | (with_reducible refine bQ ?_ ?_; (· (try and_intros) <;> first | omega | assumption | (simp only [List.length_append, List.length_map, List.length_cons, List.length_nil] <;> omega))) | (with_reducible refine aa (h2) ?_) | (with_reducible refine aa (h4) ?_) | (with_reducible refine be (aU _) ?_))
          all_goals first | rfl | exact ⟨rfl, rfl⟩
        · rename_i ht2
          have hge := List.getElem?_eq_none_iff.1 ht2
          have hlt2 : (((r1.i + 1 : Nat) : Int) < (r1.l.length : Int)) = False := eq_false (by omega)
          clear hlt ht2 hs1 hk
          repeat' (first | (with_reducible refine hY _ ?_; clear hY Y) | ((with_reducible first | refine av rfl (aD fun K' hK' => ab ?_) | refine hK' _ (ac fun Y hY => ab ?_) | refine ac fun Y hY => ab ?_ | refine ae tk0 au (ac fun Y hY => ab ?_) | refine ab ?_ | refine ap ?_ | refine bY rfl (bI fun K' hK' => ab ?_) | refine hK' _ _ (ac fun Y hY => ab ?_) | refine cJ rfl (ac fun Y hY => ab ?_)); (try clear hK' K'); (try dsimp only [aop]); try simp only [go_sem, ↓reduceIte, Nat.reduceEqDiff, Nat.reduceLT, Nat.reduceLeDiff, Nat.reduceAdd, Nat.reduceSub, Nat.reduceMul, Nat.reduceBEq, Nat.reduceBNe, Nat.reducePow, Int.reduceToNat, Int.reduceLE, Int.reduceLT, Int.reduceMul, Int.reduceEq, Int.reducePow, Int.reduceAdd, Int.reduceSub, Int.reduceNeg, reduceCtorEq, au, Tryz.results91, hbw, hlt2]) | (with_reducible first | refine ai ?_ | refine bj rfl ?_ | refine dk ?_ ?_ | refine al ?_ | refine am ?_ | refine aL fun K hK => ?_ | refine ax ?_ | refine ar ?_ | refine bg ?_ | refine aC ?_ | refine az ?_ | refine bl ?_ | refine dq fun K hK => ?_) | (with_reducible refine hK _ ?_; clear hK K) | (with_reducible refine hK _ _ ?_ ?_; (· kernel_rfl); clear hK K) | ((with_reducible first | refine aR ?_ ?_ | refine ah ?_ ?_); (· decide)) | (with_reducible refine bm tk0 au ?_ ?_; (· kernel_rfl)) | ((with_reducible refine bV (fun hc => ?_) (fun hc => ?_)) <;> (try simp only [decide_eq_true_eq, decide_eq_false_iff_not, Bool.not_true, Bool.not_false, Bool.not_eq_true', Bool.not_eq_false'] at hc) <;> (try (exfalso; omega))) | (with_reducible refine aa (h2) ?_) | (with_reducible refine aa (h4) ?_))
          all_goals first | rfl | exact ⟨rfl, rfl⟩
    rw [if_neg hk] at hR
    have hk' : ((r1.kind : Int) = 3) = False := eq_false (by omega)
    generalize r1.kind = kk at *
    have h3 := eB r1
    by_cases hb : r1.next = [40]
    · rw [if_pos ⟨rfl, hb⟩] at hR
      have hm2 := gi (by simp) hb
      rw [hb] at h3
      have h4 := gM r1 [40] (by simp)
      have h5 := rY hg hmu (r1.begin [40]) (by omega)
      simp only at hR
      generalize r1.begin [40] = r2 at *
      generalize gw g r2 = q4 at *
      obtain ⟨⟨k4, n4, x4, ks4⟩, r5⟩ := q4
      have h6 := fO r5 [41] (by simp)
      simp only [exA] at h5 h6 hR
      generalize r5.finish [41] = r6 at *
      subst hR
      repeat' (first | (with_reducible refine hY _ ?_; clear hY Y) | ((with_reducible first | refine av rfl (aD fun K' hK' => ab ?_) | refine hK' _ (ac fun Y hY => ab ?_) | refine bR rfl (ac fun Y hY => ab ?_) | refine ac fun Y hY => ab ?_ | refine aD fun K' hK' => ab ?_ | refine ae tk0 au (ac fun Y hY => ab ?_) | refine ab ?_ | refine ap ?_); (try clear hK' K'); (try dsimp only [aop]); try simp only [go_sem, ↓reduceIte, Nat.reduceEqDiff, Nat.reduceLT, Nat.reduceLeDiff, Nat.reduceAdd, Nat.reduceSub, Nat.reduceMul, Nat.reduceBEq, Nat.reduceBNe, Nat.reducePow, Int.reduceToNat, Int.reduceLE, Int.reduceLT, Int.reduceMul, Int.reduceEq, Int.reducePow, Int.reduceAdd, Int.reduceSub, Int.reduceNeg, reduceCtorEq, au, Tryz.results91, hk', beq_self_eq_true]) | (with_reducible first | refine ai ?_ | refine aS ?_ | refine al ?_ | refine am ?_ | refine aL fun K hK => ?_ | refine ax ?_ | refine ar ?_ | refine bg ?_ | refine aC ?_ | refine az ?_) | (with_reducible refine hK _ ?_; clear hK K) | ((with_reducible first | refine aR ?_ ?_ | refine ah ?_ ?_); (· decide)) | (with_reducible refine aa (h2) ?_) | (with_reducible refine aa (h3) ?_) | (with_reducible refine aa (h4) ?_) | (with_reducible refine aa (h5) ?_) | (with_reducible refine aa (h6) ?_) | (with_reducible refine be (aU _) ?_))
      all_goals first | rfl | exact ⟨rfl, rfl⟩
    · rw [if_neg (fun h => hb h.2)] at hR
      have hne : (r1.next == [40]) = false := by simpa using hb
      simp only [Bool.false_eq_true, if_false] at hR
      have h6 := fq r1 1 (by decide)
      generalize r1.text 1 = q at *
      generalize r1.next = x2 at *
      subst hR
      repeat' (first | (with_reducible refine hY _ ?_; clear hY Y) | ((with_reducible first | refine av rfl (aD fun K' hK' => ab ?_) | refine hK' _ (ac fun Y hY => ab ?_) | refine bR rfl (ac fun Y hY => ab ?_) | refine ac fun Y hY => ab ?_ | refine aD fun K' hK' => ab ?_ | refine ae tk0 au (ac fun Y hY => ab ?_) | refine ab ?_ | refine ap ?_); (try clear hK' K'); (try dsimp only [aop]); try simp only [go_sem, ↓reduceIte, Nat.reduceEqDiff, Nat.reduceLT, Nat.reduceLeDiff, Nat.reduceAdd, Nat.reduceSub, Nat.reduceMul, Nat.reduceBEq, Nat.reduceBNe, Nat.reducePow, Int.reduceToNat, Int.reduceLE, Int.reduceLT, Int.reduceMul, Int.reduceEq, Int.reducePow, Int.reduceAdd, Int.reduceSub, Int.reduceNeg, reduceCtorEq, au, Tryz.results91, hk', hne]) | (with_reducible first | refine ai ?_ | refine aS ?_ | refine al ?_ | refine am ?_ | refine aL fun K hK => ?_ | refine ar ?_ | refine aC ?_ | refine az ?_) | (with_reducible refine hK _ ?_; clear hK K) | ((with_reducible first | refine aR ?_ ?_ | refine ah ?_ ?_); (· decide)) | (with_reducible refine aa (h2) ?_) | (with_reducible refine aa (h3) ?_) | (with_reducible refine aa (h6) ?_) | (with_reducible refine be (aU _) ?_))
      all_goals first | rfl | exact ⟨rfl, rfl⟩
theorem sb : ∀ f, RxK 91 f (kW f)
  | 0 => fun s hs => absurd hs (Nat.not_lt_zero _)
  | f + 1 => yb (sb f) (jC f)
theorem dX (r : RS) : AFn Tryz.prog 69 [.loc 20000 0] [rA r] (.agg (exA (cy r).1)) [rA (cy r).2] :=
  rY (sb FU) (jC FU) r (fS r)
end Go.Proofs.YtpkcgdikbjaoaaaGreatDoor

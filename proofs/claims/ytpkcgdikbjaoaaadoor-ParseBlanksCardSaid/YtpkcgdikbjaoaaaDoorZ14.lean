/- The parser's number: a range over a text, in the world; then in K. The parser in K: names, expressions. -/
import Derived.Test.YtpkcgdikbjaoaaaDoorZ13
import Derived.Test.YtpkcgdikbjaoaaaDoorZ7
namespace Go.Proofs.YtpkcgdikbjaoaaaDoor
set_option linter.unusedSimpArgs false
set_option linter.unusedVariables false
open Go.RowKit Go.Extern
theorem nP {c : UInt8} (h : di c = true) : 48 ≤ c.toNat ∧ c.toNat ≤ 57 := by
  unfold di at h; simpa using h
theorem kB {t : Wd} {k : Nat} (h : k < t.length) : hE (t.take (k + 1)) = li (hE (t.take k)) t[k] := by
  unfold hE
  rw [List.take_succ_eq_append_getElem h, List.foldl_append]; rfl
theorem jb {t : Wd} (hd : ∀ c ∈ t, di c = true) : ∀ k, k ≤ t.length → 0 ≤ hE (t.take k) ∧ hE (t.take k) < 10 ^ k
  | 0, _ => by simp [hE]
  | k + 1, h => by
    have ih := jb hd k (by omega)
    have h1 := nP (hd t[k] (List.getElem_mem _))
    rw [kB h]
    unfold li
    rw [Int.pow_succ]
    omega
theorem oO {k : Nat} (h : k ≤ 10) : (10 : Int) ^ k ≤ 10000000000 := by
  have : (10 : Nat) ^ k ≤ 10 ^ 10 := Nat.pow_le_pow_right (by decide) h
  have h2 : ((10 ^ k : Nat) : Int) ≤ ((10 ^ 10 : Nat) : Int) := by omega
  simpa using h2
set_option maxRecDepth 100000 in
set_option maxHeartbeats 4000000 in
theorem mO (w : World) (ptr : Value) (Post : World → Prop) (t : Wd) (hd : ∀ c ∈ t, di c = true) (hl : t.length ≤ 10)
    (hw : Calls Tryd.prog 43 #[ptr, .int .i64 3] w fun e w1 => e = .returned (.string ⟨t.toArray⟩) ∧ Post w1) :
    Calls Tryd.prog 60 #[ptr] w fun e w' => e = .returned (.int .i64 (hE t)) ∧ ∃ w1, Post w1 ∧ Below w1.heap.size w1 w' := by
  generalize hT : (ByteArray.mk t.toArray) = T at *
  have hts : T.size = t.length := by rw [← hT]; rfl
  have hget : ∀ j (hj : j < T.size) (hj' : j < t.length), T[j] = t[j] := fun j hj hj' => by subst hT; rfl
  go_enter Tryd.func60, Tryd.ntmps60
  go_wp2_with (first | (go_at_call 43; refine hw.mono ?_; rintro e w1 ⟨rfl, hP⟩) | fail)
  go_loopw [3] (fun v w' => ∃ pos : Nat, w' = w1.iter T pos ∧ pos ≤ t.length ∧ v = .int .i64 (hE (t.take pos))) (fun _ w' => T.size - w'.iterPos w1.heap.size)
  case atStart => exact ⟨0, rfl, Nat.zero_le _, rfl⟩
  case round =>
    obtain ⟨pos, rfl, hpos, rfl⟩ := hrel
    by_cases hp : pos < T.size
    · have hp' : pos < t.length := by omega
      have hnx : ∀ ty, (Instr.next (.pointer (Option.some ⟨w1.heap.size, 0, none⟩)) true ty).run Tryd.prog (w1.iter T pos) = _ := fun ty => run_next_any w1 T pos ty hp
      have hdg := nP (hd t[pos] (List.getElem_mem _))
      have hb1 := jb hd pos (by omega)
      have hb2 := oO (k := pos) (by omega)
      rw [decode_ascii T pos hp (by rw [hget pos hp hp']; omega), hget pos hp hp'] at hnx
      have hw1' : IntKind.i64.wrap (10 * hE (t.take pos)) = 10 * hE (t.take pos) := by rw [bX (by omega) (by omega)]
      have hw2' : IntKind.i32.wrap (((t[pos]).toNat : Int) - 48) = ((t[pos]).toNat : Int) - 48 := by rw [IntKind.wrap_i32]; omega
      have hw3' : IntKind.i64.wrap (((t[pos]).toNat : Int) - 48) = ((t[pos]).toNat : Int) - 48 := by rw [bX (by omega) (by omega)]
      have hw4' : IntKind.i64.wrap (10 * hE (t.take pos) + (((t[pos]).toNat : Int) - 48)) = hE (t.take (pos + 1)) := by
        rw [kB hp']; unfold li; rw [bX (by omega) (by omega)]
      go_wp2
      go_roundw
      case rel => exact ⟨pos + 1, rfl, by omega, rfl⟩
      case measure =>
        simp
        omega
    · have hnx : ∀ ty, (Instr.next (.pointer (Option.some ⟨w1.heap.size, 0, none⟩)) true ty).run Tryd.prog (w1.iter T pos) = _ := fun ty => run_next_end w1 T pos ty hp
      go_wp2
      go_ret
      have e : t.take pos = t := List.take_of_length_le (by omega)
      rw [e]
      exact ⟨rfl, w1, hP, eP _ _ _⟩
theorem BSim.below {P : Program} {Pr : Nat → Prop} {G : Gh} {B : Nat → AV} {w w' : World} (h : BSim P Pr G B w) (hb : Below w.heap.size w w') : BSim P Pr G B w' :=
  ⟨fun b o v hz => by
      have := h.agree b o v hz
      exact ⟨(hb.cell (p := ⟨b, o, none⟩) (World.block_lt_of_cell? w ⟨b, o, none⟩ this.1)).trans this.1, this.2⟩,
    fun k g hg => by
      obtain ⟨h1, h2, h3⟩ := h.box k g hg
      have hlt : g < w.heap.size := by
        rcases h3 with ⟨cs, ty, _, c, h4, _⟩ | ⟨n, e, _, c, h4, _⟩ <;> exact (Array.getElem?_eq_some_iff.1 h4).1
      exact ⟨h1, h2, h3.step (.refl _ _) rfl rfl (hb.block g hlt) fun _ => rfl⟩,
    h.real, h.inj, h.gl⟩
theorem rU (s : PS) : (∀ c ∈ (s.word 3).1, di c = true) ∧ (s.word 3).1.length ≤ 10 := by
  unfold PS.word
  split
  · rename_i h
    obtain ⟨_, t, r, hl, hk⟩ := dP h
    have := (s.ok t (by rw [hl]; simp)).2.1 hk
    rw [hl]
    exact this
  · exact ⟨fun c h => by simp at h, by simp⟩
theorem jI (s : PS) : AFn Tryd.prog 60 [.loc 20000 0] [pA s] (inA s.number.1) [pA s.number.2] := fun w G vs hst hvs hargs => by
  have h0 := hargs 0 (by simp)
  have e0 : vs = #[vs.getD 0 undef] := by
    cases vs with
    | mk l =>
      match l, hvs with
      | [v0], _ => rfl
  generalize vs.getD 0 undef = ptr at *
  subst e0
  have hk := rU s
  have hw := qs s 3 w G #[ptr, .int .i64 3] hst (by simp) (fun j hj => by
    match j, hj with
    | 0, _ => exact h0
    | 1, _ => exact .p (.c _))
  refine (mO w ptr (fun w1 => ∃ G', BSim Tryd.prog (fun b => b < w.heap.size ∧ ∀ k, G.γ k ≠ some b) G' (bm [pA (s.word 3).2]) w1 ∧
      WStep (fun b => b < w.heap.size ∧ ∀ k, G.γ k ≠ some b) w w1 ∧ BStep G (bm [pA s]) G' (bm [pA (s.word 3).2]) ∧
      ∀ b o, b < w.heap.size → (∀ k, G.γ k ≠ some b) → G'.Z b o = G.Z b o) (s.word 3).1 hk.1 hk.2 (hw.mono fun e w1 ⟨v, G', he, hv, h1, h2, h3, h4⟩ => ?_)).mono ?_
  · refine ⟨?_, G', h1, h2, h3, h4⟩
    rw [he, bF hv]
  · rintro e w' ⟨rfl, w1, ⟨G', h1, h2, h3, h4⟩, hb⟩
    exact ⟨_, G', rfl, .p (.c _), h1.below hb, ⟨hb.os.trans h2.os, hb.tape.trans h2.tape, hb.output.trans h2.output, Nat.le_trans h2.size hb.size,
      fun b hp hlt => (hb.block b (Nat.lt_of_lt_of_le hlt h2.size)).trans (h2.block b hp hlt)⟩, h3, h4⟩
end Go.Proofs.YtpkcgdikbjaoaaaDoor
namespace Go.Proofs.YtpkcgdikbjaoaaaDoor
set_option linter.unusedSimpArgs false
set_option linter.unusedVariables false
open Go.RowKit
def a5 : Nat → List Nat
  | 0 => [0, 1]
  | 1 => [0, 1]
  | 2 => []
  | 3 => [0]
  | 4 => [0, 5]
  | 5 => [0, 5]
  | 6 => [5]
  | _ => []
set_option maxRecDepth 100000 in
set_option maxHeartbeats 4000000 in
theorem nC (s : PS) (u : Wd) : AFn Tryd.prog 26 [.loc 20000 0, bs u] [pA s] (.sl ((s.names u).1.map bs) (s.names u).1.length .none) [pA (s.names u).2] := by
  have h1 := jD s u
  have h2 := eZ s
  unfold PS.names
  by_cases h : s.is u = true
  · rw [if_pos h]
    rw [h] at h1
    refine dr (r := .sl [] 0 .full) ?_ 1 rfl
    refine aM [] Tryd.func26 rfl Tryd.ntmps26 (Nat.le_of_ble_eq_true rfl) (Nat.le_of_ble_eq_true rfl) fun w0 G0 B0 Pr hB0 => ?_
    simp only [aS, aJ, List.cons_append, List.nil_append]
    repeat' (first | (with_reducible refine hY _ ?_; clear hY Y) | ((with_reducible first | refine aD rfl (aN fun K' hK' => ab ?_) | refine hK' _ (ac fun Y hY => ab ?_) | refine ac fun Y hY => ab ?_ | refine ae tk0 a5 (ac fun Y hY => ab ?_) | refine ab ?_ | refine av ?_); (try clear hK' K'); (try dsimp only [aop]); try simp only [go_sem, ↓reduceIte, Nat.reduceEqDiff, Nat.reduceLT, Nat.reduceLeDiff, Nat.reduceAdd, Nat.reduceSub, Nat.reduceMul, Nat.reduceBEq, Nat.reduceBNe, Nat.reducePow, Int.reduceToNat, Int.reduceLE, Int.reduceLT, Int.reduceMul, Int.reduceEq, Int.reducePow, Int.reduceAdd, Int.reduceSub, Int.reduceNeg, reduceCtorEq, a5, Tryd.results26]) | (with_reducible first | refine aj ?_ | refine ar ?_ | refine au ?_ | refine aT fun K hK => ?_ | refine aK ?_ | refine bA ?_ | refine aF ?_) | (with_reducible refine hK _ ?_; clear hK K) | ((with_reducible refine al ?_ ?_); (· decide)) | (with_reducible refine aa (h1) ?_))
  rw [if_neg h]
  rw [Bool.eq_false_iff.2 h] at h1
  obtain ⟨R, hR⟩ : ∃ R, R = eq [44] (fun s : PS => s.word 1) FU [(s.word 1).1] (s.word 1).2 := ⟨_, rfl⟩
  rw [← hR]
  have hm0 := dR (s.word 1).2
  generalize s.word 1 = q at *
  refine aM [] Tryd.func26 rfl Tryd.ntmps26 (Nat.le_of_ble_eq_true rfl) (Nat.le_of_ble_eq_true rfl) fun w0 G0 B0 Pr hB0 => ?_
  simp only [aS, aJ, List.cons_append, List.nil_append]
  repeat' (first | (with_reducible refine hY _ ?_; clear hY Y) | ((with_reducible first | refine aD rfl (aN fun K' hK' => ab ?_) | refine hK' _ (ac fun Y hY => ab ?_) | refine ac fun Y hY => ab ?_ | refine ae tk0 a5 (ac fun Y hY => ab ?_) | refine ab ?_); (try clear hK' K'); (try dsimp only [aop]); try simp only [go_sem, ↓reduceIte, Nat.reduceEqDiff, Nat.reduceLT, Nat.reduceLeDiff, Nat.reduceAdd, Nat.reduceSub, Nat.reduceMul, Nat.reduceBEq, Nat.reduceBNe, Nat.reducePow, Int.reduceToNat, Int.reduceLE, Int.reduceLT, Int.reduceMul, Int.reduceEq, Int.reducePow, Int.reduceAdd, Int.reduceSub, Int.reduceNeg, reduceCtorEq, a5, Tryd.results26]) | (with_reducible first | refine aj ?_ | refine ar ?_ | refine au ?_ | refine aT fun K hK => ?_ | refine aC ?_ | refine ax ?_ | refine aP ?_ | refine bZ ?_) | (with_reducible refine hK _ ?_; clear hK K) | ((with_reducible refine al ?_ ?_); (· decide)) | (with_reducible refine aa (h1) ?_) | (with_reducible refine aa (h2) ?_))
  refine fB (iO (b := 10018) (t := 5) 9 (by decide) (by decide) rfl rfl) ?_
  refine b7 (α := Nat × List Wd × PS) (fun p => [(0, .loc 20000 0), (5, .sl (p.2.1.map bs) p.2.1.length (.tok 10018)), (10018, .bt p.2.1.length 9), (20000, pA p.2.2)])
    (fun p => eq [44] (fun s : PS => s.word 1) p.1 p.2.1 p.2.2 = R ∧ p.2.2.mu < p.1 ∧ p.2.1.length + p.1 ≤ 80000) (fun p => p.1) (FU, [q.1], q.2) [0, 5] ?_ ⟨hR.symm, hm0, (by simp [FU])⟩ ?_
  · simp only [go_sem, ↓reduceIte, Nat.reduceEqDiff, Nat.reduceLT, Nat.reduceLeDiff, Nat.reduceAdd, Nat.reduceSub, Nat.reduceMul, Nat.reduceBEq, Nat.reduceBNe, Nat.reducePow, Int.reduceToNat, Int.reduceLE, Int.reduceLT, Int.reduceMul, Int.reduceEq, Int.reducePow, Int.reduceAdd, Int.reduceSub, Int.reduceNeg, reduceCtorEq] <;> rfl
  rintro ⟨f, out, s1⟩ ⟨hgo, hmu, hlen⟩ ih
  simp only at ih hgo hmu hlen ⊢
  obtain ⟨f, rfl⟩ : ∃ f', f = f' + 1 := ⟨f - 1, by omega⟩
  rw [eq] at hgo
  have h3 := fz s1 [44]
  have h4 := eZ s1.drop
  have hm1 := cX s1.drop 1
  unfold PS.take at h3
  by_cases hc : s1.is [44] = true
  · have hm2 := bB hc
    rw [if_pos hc] at hgo h3
    simp only at h3
    generalize s1.drop.word 1 = q2 at *
    repeat' (first | (with_reducible refine hY _ ?_; clear hY Y) | ((with_reducible first | refine aD rfl (aN fun K' hK' => ab ?_) | refine hK' _ (ac fun Y hY => ab ?_) | refine ac fun Y hY => ab ?_ | refine ae tk0 a5 (ac fun Y hY => ab ?_) | refine ab ?_); (try clear hK' K'); (try dsimp only [aop]); try simp only [go_sem, ↓reduceIte, Nat.reduceEqDiff, Nat.reduceLT, Nat.reduceLeDiff, Nat.reduceAdd, Nat.reduceSub, Nat.reduceMul, Nat.reduceBEq, Nat.reduceBNe, Nat.reducePow, Int.reduceToNat, Int.reduceLE, Int.reduceLT, Int.reduceMul, Int.reduceEq, Int.reducePow, Int.reduceAdd, Int.reduceSub, Int.reduceNeg, reduceCtorEq, a5, Tryd.results26, List.length_map]) | (with_reducible first | refine aj ?_ | refine ar ?_ | refine au ?_ | refine aT fun K hK => ?_ | refine aK ?_ | refine a8 ?_ | refine ax ?_ | refine aP ?_) | (with_reducible refine hK _ ?_; clear hK K) | ((with_reducible refine al ?_ ?_); (· decide)) | (with_reducible refine bT ?_ ?_; (· (try and_intros) <;> first | omega | assumption | (simp only [List.length_append, List.length_map, List.length_cons, List.length_nil] <;> omega))) | (with_reducible refine aa (h3) ?_) | (with_reducible refine aa (h4) ?_))
    refine bI [0, 5] (by simp only [go_sem, ↓reduceIte, Nat.reduceEqDiff, Nat.reduceLT, Nat.reduceLeDiff, Nat.reduceAdd, Nat.reduceSub, Nat.reduceMul, Nat.reduceBEq, Nat.reduceBNe, Nat.reducePow, Int.reduceToNat, Int.reduceLE, Int.reduceLT, Int.reduceMul, Int.reduceEq, Int.reducePow, Int.reduceAdd, Int.reduceSub, Int.reduceNeg, reduceCtorEq]; exact rfl) ?_
    refine et (ih (f, out ++ [q2.1], q2.2) ⟨hgo, by simp only; omega, (by simp only [List.length_append, List.length_cons, List.length_nil]; omega)⟩ (by simp only; omega)) ?_
    simp
  · rw [if_neg hc] at hgo h3
    simp only at h3
    subst hgo
    repeat' (first | (with_reducible refine hY _ ?_; clear hY Y) | ((with_reducible first | refine aD rfl (aN fun K' hK' => ab ?_) | refine hK' _ (ac fun Y hY => ab ?_) | refine ac fun Y hY => ab ?_ | refine ae tk0 a5 (ac fun Y hY => ab ?_) | refine ab ?_ | refine av ?_); (try clear hK' K'); (try dsimp only [aop]); try simp only [go_sem, ↓reduceIte, Nat.reduceEqDiff, Nat.reduceLT, Nat.reduceLeDiff, Nat.reduceAdd, Nat.reduceSub, Nat.reduceMul, Nat.reduceBEq, Nat.reduceBNe, Nat.reducePow, Int.reduceToNat, Int.reduceLE, Int.reduceLT, Int.reduceMul, Int.reduceEq, Int.reducePow, Int.reduceAdd, Int.reduceSub, Int.reduceNeg, reduceCtorEq, a5, Tryd.results26]) | (with_reducible first | refine aj ?_ | refine ar ?_ | refine au ?_ | refine aT fun K hK => ?_ | refine aC ?_ | refine b3 ?_ | refine bG ?_ | refine aF ?_ | refine bH ?_) | (with_reducible refine hK _ ?_; clear hK K) | ((with_reducible refine al ?_ ?_); (· decide)) | (with_reducible refine aa (h3) ?_))
theorem nM (s : PS) : pA s.drop = .bc [.sl (s.drop.l.flatMap fL) s.drop.l.length .none, inA s.end0, inA s.depth, gh s.err] 65 := rfl
theorem nX {s : PS} {w : Wd} (h : s.is w = true) : (s.l.flatMap fL).drop 3 = s.drop.l.flatMap fL := by
  obtain ⟨_, t, r, hl⟩ := gX h
  unfold PS.drop
  simp only [hl]; rfl
theorem lZ {s : PS} {w : Wd} (h : s.is w = true) : s.l.length - 1 = s.drop.l.length := by
  unfold PS.drop; simp
theorem nl {s : PS} {w : Wd} (h : s.is w = true) : ((1 : Int) ≤ (s.l.length : Int)) = True := by
  obtain ⟨_, t, r, hl⟩ := gX h
  exact eq_true (by rw [hl, List.length_cons]; omega)
theorem tc (t : Tok) (r : List Tok) (e0 d : Int) (er : Option (Int × Nat)) (ok) (sh) : PS.drop ⟨t :: r, e0, d, er, ok, sh⟩ = ⟨r, e0, d, er, fun x h => ok x (List.mem_cons_of_mem _ h), Nat.le_of_succ_le sh⟩ := rfl
def ExK (f : FuncId) (B : Nat) (g : PS → Ex × PS) : Prop := ∀ s : PS, s.mu < B → AFn Tryd.prog f [.loc 20000 0] [pA s] (.agg (exA (g s).1)) [pA (g s).2]
def bq : Nat → List Nat
  | 0 => [0]
  | 1 => [0, 2]
  | 2 => [0, 2, 3]
  | 3 => [0, 2, 3]
  | 4 => [0, 2, 3, 4]
  | 5 => [0, 2, 3]
  | 6 => [0, 2, 3, 4]
  | 7 => [0, 2, 3, 4]
  | 8 => [0, 2, 3, 4, 5]
  | 9 => [2, 3]
  | _ => []
set_option maxRecDepth 100000 in
set_option maxHeartbeats 4000000 in
theorem oX {B : Nat} {g : PS → Ex × PS} (hg : ExK 68 B g) (hmu : ∀ s, (g s).2.mu ≤ s.mu) : ExK 61 B (gk g) := by
  intro s hs
  obtain ⟨R, hR⟩ : ∃ R, R = gk g s := ⟨_, rfl⟩
  rw [← hR]
  unfold gk at hR
  have h1 := hg s hs
  have hm0 := dR (g s).2
  have hm1 := hmu s
  generalize g s = q at *
  obtain ⟨⟨k0, n0, x0, ks0⟩, s0⟩ := q
  simp only [exA] at h1
  refine aM [] Tryd.func61 rfl Tryd.ntmps61 (Nat.le_of_ble_eq_true rfl) (Nat.le_of_ble_eq_true rfl) fun w0 G0 B0 Pr hB0 => ?_
  simp only [aS, aJ, List.cons_append, List.nil_append]
  repeat' (first | (with_reducible refine hY _ ?_; clear hY Y) | ((with_reducible first | refine aD rfl (aN fun K' hK' => ab ?_) | refine hK' _ (ac fun Y hY => ab ?_) | refine ae tk0 bq (ac fun Y hY => ab ?_) | refine ab ?_); (try clear hK' K'); (try dsimp only [aop]); try simp only [go_sem, ↓reduceIte, Nat.reduceEqDiff, Nat.reduceLT, Nat.reduceLeDiff, Nat.reduceAdd, Nat.reduceSub, Nat.reduceMul, Nat.reduceBEq, Nat.reduceBNe, Nat.reducePow, Int.reduceToNat, Int.reduceLE, Int.reduceLT, Int.reduceMul, Int.reduceEq, Int.reducePow, Int.reduceAdd, Int.reduceSub, Int.reduceNeg, reduceCtorEq, bq, Tryd.results61]) | (with_reducible first | refine aj ?_ | refine ar ?_ | refine au ?_ | refine aT fun K hK => ?_ | refine ax ?_ | refine bZ ?_) | (with_reducible refine hK _ ?_; clear hK K) | (with_reducible refine aa (h1) ?_))
  refine b7 (α := Nat × Ex × PS) (fun p => [(0, .loc 20000 0), (2, .loc 10002 0), (3, .loc 10003 0), (10002, .bc (exA exZ) 43), (10003, .bc (exA p.2.1) 43), (20000, pA p.2.2)])
    (fun p => eo g p.1 p.2.1 p.2.2 = R ∧ p.2.2.mu < p.1 ∧ p.2.2.mu < B) (fun p => p.1) (FU, .mk k0 n0 x0 ks0, s0) [0, 2, 3] ?_ ⟨hR.symm, hm0, Nat.lt_of_le_of_lt hm1 hs⟩ ?_
  · simp only [go_sem, ↓reduceIte, Nat.reduceEqDiff, Nat.reduceLT, Nat.reduceLeDiff, Nat.reduceAdd, Nat.reduceSub, Nat.reduceMul, Nat.reduceBEq, Nat.reduceBNe, Nat.reducePow, Int.reduceToNat, Int.reduceLE, Int.reduceLT, Int.reduceMul, Int.reduceEq, Int.reducePow, Int.reduceAdd, Int.reduceSub, Int.reduceNeg, reduceCtorEq] <;> rfl
  rintro ⟨f, ⟨k1, n1, x1, ks1⟩, s1⟩ ⟨hgo, hmf, hmB⟩ ih
  simp only [exA, exZ, b4] at ih hgo hmf hmB ⊢
  obtain ⟨f, rfl⟩ : ∃ f', f = f' + 1 := ⟨f - 1, by omega⟩
  rw [eo] at hgo
  have h2 := jD s1 [43]
  have h3 := jD s1 [45]
  by_cases hc : (s1.is [43] || s1.is [45]) = true
  · rw [if_pos hc] at hgo
    have hc' : ∃ w, s1.is w = true := by
      rcases Bool.or_eq_true _ _ |>.mp hc with h | h
      · exact ⟨_, h⟩
      · exact ⟨_, h⟩
    obtain ⟨w, hw⟩ := hc'
    have hm2 := bB hw
    have hm3 := hmu s1.drop
    have h4 := hg s1.drop (by omega)
    have hd1 := nX hw
    have hd2 := lZ hw
    have hd3 := nl hw
    have hd4 := gy (f := fL) (k := 3) (fun _ => rfl) s1.l
    rw [nM] at h4
    generalize s1.drop = s2 at *
    generalize g s2 = q2 at *
    obtain ⟨⟨k2, n2, x2, ks2⟩, s3⟩ := q2
    simp only [exA] at h4 hgo hm3
    generalize s1.is [43] = b1 at *
    generalize s1.is [45] = b2 at *
    cases b1 <;> cases b2
    · cases hc
    all_goals (
      repeat' (first | (with_reducible refine hY _ ?_; clear hY Y) | ((with_reducible first | refine aD rfl (aN fun K' hK' => ab ?_) | refine hK' _ (ac fun Y hY => ab ?_) | refine bV rfl (ac fun Y hY => ab ?_) | refine ac fun Y hY => ab ?_ | refine aN fun K' hK' => ab ?_ | refine ae tk0 bq (ac fun Y hY => ab ?_) | refine ab ?_); (try clear hK' K'); (try dsimp only [aop]); try simp only [go_sem, ↓reduceIte, Nat.reduceEqDiff, Nat.reduceLT, Nat.reduceLeDiff, Nat.reduceAdd, Nat.reduceSub, Nat.reduceMul, Nat.reduceBEq, Nat.reduceBNe, Nat.reducePow, Int.reduceToNat, Int.reduceLE, Int.reduceLT, Int.reduceMul, Int.reduceEq, Int.reducePow, Int.reduceAdd, Int.reduceSub, Int.reduceNeg, reduceCtorEq, bq, Tryd.results61, hd1, hd2, hd3, hd4]) | (with_reducible first | refine aj ?_ | refine bW rfl ?_ | refine bl ?_ | refine fa ?_ ?_ | refine ar ?_ | refine au ?_ | refine aT fun K hK => ?_ | refine aK ?_ | refine aC ?_ | refine a8 ?_ | refine ax ?_ | refine aP ?_) | (with_reducible refine hK _ ?_; clear hK K) | ((with_reducible first | refine bh ?_ ?_ | refine al ?_ ?_); (· decide)) | (with_reducible refine aa (h2) ?_) | (with_reducible refine aa (h3) ?_) | (with_reducible refine aa (h4) ?_))
      refine bI [0, 2, 3] (by simp only [go_sem, ↓reduceIte, Nat.reduceEqDiff, Nat.reduceLT, Nat.reduceLeDiff, Nat.reduceAdd, Nat.reduceSub, Nat.reduceMul, Nat.reduceBEq, Nat.reduceBNe, Nat.reducePow, Int.reduceToNat, Int.reduceLE, Int.reduceLT, Int.reduceMul, Int.reduceEq, Int.reducePow, Int.reduceAdd, Int.reduceSub, Int.reduceNeg, reduceCtorEq]; exact rfl) ?_
      refine et (ih (f, _, s3) ⟨hgo, by simp only; omega, by simp only; omega⟩ (by simp only; omega)) ?_
      rfl)
  · rw [if_neg hc] at hgo
    have hc1 : s1.is [43] = false := by cases h : s1.is [43] <;> simp [h] at hc ⊢
    have hc2 : s1.is [45] = false := by cases h : s1.is [45] <;> simp [h] at hc ⊢
    rw [hc1] at h2
    rw [hc2] at h3
    rw [← hgo]
    repeat' (first | (with_reducible refine hY _ ?_; clear hY Y) | ((with_reducible first | refine aD rfl (aN fun K' hK' => ab ?_) | refine hK' _ (ac fun Y hY => ab ?_) | refine bV rfl (ac fun Y hY => ab ?_) | refine ac fun Y hY => ab ?_ | refine aN fun K' hK' => ab ?_ | refine ae tk0 bq (ac fun Y hY => ab ?_) | refine ab ?_ | refine av ?_); (try clear hK' K'); (try dsimp only [aop]); try simp only [go_sem, ↓reduceIte, Nat.reduceEqDiff, Nat.reduceLT, Nat.reduceLeDiff, Nat.reduceAdd, Nat.reduceSub, Nat.reduceMul, Nat.reduceBEq, Nat.reduceBNe, Nat.reducePow, Int.reduceToNat, Int.reduceLE, Int.reduceLT, Int.reduceMul, Int.reduceEq, Int.reducePow, Int.reduceAdd, Int.reduceSub, Int.reduceNeg, reduceCtorEq, bq, Tryd.results61]) | (with_reducible first | refine aj ?_ | refine bl ?_ | refine ar ?_ | refine au ?_ | refine aT fun K hK => ?_ | refine aC ?_ | refine b3 ?_ | refine bG ?_ | refine aF ?_ | refine bH ?_) | (with_reducible refine hK _ ?_; clear hK K) | ((with_reducible first | refine bh ?_ ?_ | refine al ?_ ?_); (· decide)) | (with_reducible refine aa (h2) ?_) | (with_reducible refine aa (h3) ?_))
    all_goals first | rfl | exact ⟨rfl, rfl⟩
end Go.Proofs.YtpkcgdikbjaoaaaDoor

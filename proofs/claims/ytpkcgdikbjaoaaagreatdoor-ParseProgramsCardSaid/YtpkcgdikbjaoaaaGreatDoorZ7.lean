/- trammellaw00.Is and Told, in K. strings.IndexByte and scan.run, in the world; then in K. Lists laid side by side. No program is in sight. K: a loop cut from what comes behind it. No program is in sight. -/
import Derived.Test.YtpkcgdikbjaoaaaGreatDoorZ0
import Derived.Test.YtpkcgdikbjaoaaaGreatDoorZ6
import Derived.Lib.Bytealg
import Derived.Laws.StandIn
import Derived.Laws.RangeAny
import Derived.Laws.Runes
import Derived.LoopTactic
import Derived.Test.YtpkcgdikbjaoaaaGreatDoorZ5
namespace Go.Proofs.YtpkcgdikbjaoaaaGreatDoor
set_option linter.unusedSimpArgs false
set_option linter.unusedVariables false
open Go.RowKit
theorem lc {P : Program} {f : FuncId} {args : List AV} {x : Value}
    (h : ∀ (w : World) (G : Gh) (vs : Array Value), (∀ b o v, G.Z b o = some v → w.cell? ⟨b, o, none⟩ = some v ∧ v.oneCell' = true) → Gl G.Z → vs.size = args.length → (∀ j (h : j < args.length), VRel G (cv []) (vs.getD j undef) args[j]) →
      Calls P f vs w fun e w' => e = .returned x ∧ Below w.heap.size w w') : AFn P f args [] (.c x) [] := fun w G vs hst hvs hargs => by
  have hu : ∀ k, cv [] k = .u := fun k => by unfold cv; split <;> simp
  have hγ : ∀ k, G.γ k = none := fun k => by
    cases hg : G.γ k with
    | none => rfl
    | some g =>
      obtain ⟨_, _, hb⟩ := hst.box k g hg
      rcases hb with ⟨_, _, h1, _⟩ | ⟨_, _, h1, _⟩ <;> rw [hu] at h1 <;> cases h1
  refine (h w G vs hst.agree hst.gl hvs hargs).mono fun e w' ⟨he, hb⟩ => ⟨x, G, he, .p (.c x), ⟨fun b o v hz => ?_, fun k g hk => ?_, fun k cs ty _ hc => ?_, fun k k' g hk => ?_, hst.gl⟩, ⟨hb.os, hb.tape, hb.output, hb.size, fun b hp _ => hb.block b hp.1⟩, .refl _ _, fun _ _ _ _ => rfl⟩
  · have := hst.agree b o v hz
    exact ⟨(hb.cell (p := ⟨b, o, none⟩) (World.block_lt_of_cell? w ⟨b, o, none⟩ this.1)).trans this.1, this.2⟩
  · rw [hγ] at hk; cases hk
  · rw [hu] at hc; cases hc
  · rw [hγ] at hk; cases hk
theorem kF {G : Gh} {w : World} (hag : ∀ b o v, G.Z b o = some v → w.cell? ⟨b, o, none⟩ = some v ∧ v.oneCell' = true) (hgl : Gl G.Z) : w.cell? ⟨0, 0, none⟩ = some (rty 27) := by
  have h := hgl 0 _ rfl
  obtain ⟨b, off, f, e, hz, hp⟩ := gU (VRel.p (G := G) (B := cv []) h)
  have h1 := hz 0 (by simp)
  have h2 := hp 0 (by simp)
  have h3 := (hag _ _ _ h1).1
  obtain ⟨v', e2, h4⟩ := dW (VRel.p (G := G) (B := cv []) h2)
  obtain ⟨vs, e3, hs, _, hp4⟩ := fK h4
  have h5 := cV (hp4 0 (by simp))
  have e4 : vs = #[hnd 27] := by
    cases vs with
    | mk l =>
      match l, hs with
      | [v0], _ => simp at h5; subst h5; rfl
  subst e4
  subst e3
  rw [e2] at h3
  simp only [Value.pointer.injEq, Option.some.injEq, Addr.mk.injEq] at e
  obtain ⟨q1, q2, _⟩ := e
  rw [← q1, Nat.add_zero, show off = 0 by omega] at h3
  exact h3
def jV (at0 : Int) (e : Nat) : AV := .ifc 74 (.rf [.c (.int .i64 at0), eF e] 0)
theorem ny (a0 at0 : Int) (e c : Nat) (he : e ≠ 0) : AFn Tryz.prog 10 [jV a0 e, .c (.int .i64 at0), .c (.int .i64 c)] [] (.c (.bool (((e : Int) == (c : Int)) && (a0 == at0)))) [] :=
  lc fun w G vs hag hgl hs hargs => by
    have h0 := hargs 0 (by simp)
    have h1 := cV (hargs 1 (by simp))
    have h2 := cV (hargs 2 (by simp))
    obtain ⟨v', e0, h3⟩ := dW h0
    obtain ⟨b, off, f, e1, hz, hp⟩ := gU h3
    subst e1
    have hc0 := (hag _ _ _ (hz 0 (by simp))).1
    have hc1 := (hag _ _ _ (hz 1 (by simp))).1
    have p0 := cV (VRel.p (G := G) (B := cv []) (hp 0 (by simp)))
    have p1 := hp 1 (by simp)
    simp only [List.getElem_cons_succ, List.getElem_cons_zero, eA he] at p0 p1
    obtain ⟨v2, e2, h4⟩ := dW (VRel.p (G := G) (B := cv []) p1)
    have h5 := cV h4
    subst h5
    rw [p0] at hc0
    rw [e2] at hc1
    obtain rfl : vs = #[.iface 74 (.pointer (some ⟨b, off + 0, none⟩)), .int .i64 at0, .int .i64 c] := by
      cases vs with
      | mk l =>
        match l, hs with
        | [x, y, z], _ =>
          simp at e0 h1 h2
          subst e0 h1 h2
          rfl
    exact rm b (off + 0) a0 e at0 c w hc0 hc1 (kF hag hgl)
theorem vN {vs : Array Value} {x y z : Value} (hs : vs.size = 3) (h0 : vs.getD 0 undef = x) (h1 : vs.getD 1 undef = y) (h2 : vs.getD 2 undef = z) : vs = #[x, y, z] := by
  cases vs with
  | mk l =>
    match l, hs with
    | [a, b, c], _ => simp at h0 h1 h2; subst h0 h1 h2; rfl
theorem zC (at0 : Int) (a c : Nat) : AFn Tryz.prog 10 [eF a, .c (.int .i64 at0), .c (.int .i64 c)] [] (.c (.bool false)) [] :=
  lc fun w G vs hag hgl hs hargs => by
    have h0 := hargs 0 (by simp)
    have h1 := cV (hargs 1 (by simp))
    have h2 := cV (hargs 2 (by simp))
    by_cases ha : a = 0
    · subst ha
      have h3 := cV (x := .nilIface) h0
      obtain rfl := vN hs h3 h1 h2
      exact tI c at0 w
    · simp only [List.getElem_cons_zero, eA ha] at h0
      obtain ⟨v2, e2, h4⟩ := dW h0
      have h5 := cV h4
      subst h5
      obtain rfl := vN hs e2 h1 h2
      exact rr a c at0 w (kF hag hgl)
def lE (e : Nat) (at0 : Int) : AV := if at0 < 0 ∨ e = 0 then eF e else jV at0 e
def dj : Nat → List Nat
  | 0 => [0, 1, 2]
  | 1 => [0, 1, 2]
  | 2 => [0, 1]
  | 3 => [0, 1, 2]
  | _ => []
set_option maxRecDepth 100000 in
set_option maxHeartbeats 4000000 in
theorem rR (e : Nat) (at0 : Int) (he : e ≤ 16) (h : e = 0 → at0 < 0) : AFn Tryz.prog 8 [lE e at0, .c (.int .i64 (e : Int)), .c (.int .i64 at0)] [] (.c (.bool true)) [] := by
  by_cases h0 : at0 < 0
  · have hc := zo e he
    rw [show lE e at0 = eF e from if_pos (.inl h0)]
    refine aK [] Tryz.func8 rfl Tryz.ntmps8 (Nat.le_of_ble_eq_true rfl) (Nat.le_of_ble_eq_true rfl) fun w0 G0 B0 Pr hB0 => ?_
    simp only [aQ, aI, List.cons_append, List.nil_append]
    repeat' (first | (with_reducible refine hY _ ?_; clear hY Y) | ((with_reducible first | refine av rfl (aD fun K' hK' => ab ?_) | refine hK' _ (ac fun Y hY => ab ?_) | refine ac fun Y hY => ab ?_ | refine ae tk0 dj (ac fun Y hY => ab ?_) | refine ab ?_ | refine ap ?_); (try clear hK' K'); (try dsimp only [aop]); try simp only [go_sem, ↓reduceIte, Nat.reduceEqDiff, Nat.reduceLT, Nat.reduceLeDiff, Nat.reduceAdd, Nat.reduceSub, Nat.reduceMul, Nat.reduceBEq, Nat.reduceBNe, Nat.reducePow, Int.reduceToNat, Int.reduceLE, Int.reduceLT, Int.reduceMul, Int.reduceEq, Int.reducePow, Int.reduceAdd, Int.reduceSub, Int.reduceNeg, reduceCtorEq, dj, Tryz.results8, h0]) | (with_reducible first | refine ai ?_ | refine al ?_ | refine am ?_ | refine aL fun K hK => ?_ | refine ax ?_ | refine bg ?_ | refine az ?_) | (with_reducible refine hK _ ?_; clear hK K) | ((with_reducible refine ah ?_ ?_); (· decide)) | (with_reducible refine aa (hc) ?_))
  · have he0 : e ≠ 0 := fun e0 => h0 (h e0)
    have hi := ny at0 at0 e e he0
    rw [show (((e : Int) == (e : Int)) && (at0 == at0)) = true by simp] at hi
    rw [show lE e at0 = jV at0 e from if_neg (by rintro (h1 | h1) <;> contradiction)]
    unfold jV at hi ⊢
    refine aK [] Tryz.func8 rfl Tryz.ntmps8 (Nat.le_of_ble_eq_true rfl) (Nat.le_of_ble_eq_true rfl) fun w0 G0 B0 Pr hB0 => ?_
    simp only [aQ, aI, List.cons_append, List.nil_append]
    repeat' (first | (with_reducible refine hY _ ?_; clear hY Y) | ((with_reducible first | refine av rfl (aD fun K' hK' => ab ?_) | refine hK' _ (ac fun Y hY => ab ?_) | refine ac fun Y hY => ab ?_ | refine ae tk0 dj (ac fun Y hY => ab ?_) | refine ab ?_ | refine ap ?_); (try clear hK' K'); (try dsimp only [aop]); try simp only [go_sem, ↓reduceIte, Nat.reduceEqDiff, Nat.reduceLT, Nat.reduceLeDiff, Nat.reduceAdd, Nat.reduceSub, Nat.reduceMul, Nat.reduceBEq, Nat.reduceBNe, Nat.reducePow, Int.reduceToNat, Int.reduceLE, Int.reduceLT, Int.reduceMul, Int.reduceEq, Int.reducePow, Int.reduceAdd, Int.reduceSub, Int.reduceNeg, reduceCtorEq, dj, Tryz.results8, h0]) | (with_reducible first | refine ai ?_ | refine al ?_ | refine am ?_ | refine aL fun K hK => ?_ | refine ar ?_ | refine aC ?_ | refine az ?_) | (with_reducible refine hK _ ?_; clear hK K) | ((with_reducible refine ah ?_ ?_); (· decide)) | (with_reducible refine aa (hi) ?_))
end Go.Proofs.YtpkcgdikbjaoaaaGreatDoor
namespace Go.Proofs.YtpkcgdikbjaoaaaGreatDoor
set_option linter.unusedSimpArgs false
set_option linter.unusedVariables false
open Go.RowKit Go.Extern
theorem rJ (s : ByteArray) (c : Int) (w : World) :
    Calls Tryz.prog 55 #[.string s, .int .u8 c] w fun e w' => e = .returned (.int .i64 (firstIdx s c.toNat.toUInt8)) ∧ w' = w := by
  have hx := @run_callFunc_indexByte Tryz.prog 93 _ Tryz.func93 (by kernel_rfl) (by kernel_rfl) (by kernel_rfl) (by kernel_rfl)
  have hi : Calls Tryz.prog 76 #[.string s, .int .u8 c] w fun e w' => e = .returned (.int .i64 (firstIdx s c.toNat.toUInt8)) ∧ w' = w := by
    have he := run_indexByte_string (P := Tryz.prog) s c w
    go_enter Tryz.func76, Tryz.ntmps76
    go_wp2
    go_ret
    exact ⟨rfl, rfl⟩
  go_enter Tryz.func55, Tryz.ntmps55
  go_wp2_with (first | (go_at_call 76; refine hi.mono ?_; rintro e W ⟨rfl, rfl⟩) | fail)
  go_ret
  exact ⟨rfl, rfl⟩
def bP (some l : List UInt8) : Nat := (l.takeWhile fun c => some.contains c).length
theorem mF {some l : List UInt8} {p : Nat} (hp : p < l.length) (h : ∀ j (hj : j < l.length), j < p → some.contains l[j] = true) (hn : some.contains l[p] = false) : bP some l = p := by
  unfold bP
  induction l generalizing p with
  | nil => simp at hp
  | cons x l ih =>
    cases p with
    | zero => simp at hn; simp [List.takeWhile_cons, hn]
    | succ p =>
      have h0 := h 0 (by simp) (by omega)
      simp only [List.getElem_cons_zero] at h0
      rw [List.takeWhile_cons, if_pos h0, List.length_cons, ih (Nat.lt_of_succ_lt_succ hp) (fun j hj hjp => h (j + 1) (Nat.succ_lt_succ hj) (Nat.succ_lt_succ hjp)) hn]
theorem ul {some l : List UInt8} (h : ∀ j (hj : j < l.length), some.contains l[j] = true) : bP some l = l.length := by
  unfold bP
  induction l with
  | nil => rfl
  | cons x l ih =>
    have h0 := h 0 (by simp)
    simp only [List.getElem_cons_zero] at h0
    rw [List.takeWhile_cons, if_pos h0, List.length_cons, ih fun j hj => h (j + 1) (Nat.succ_lt_succ hj)]
    rfl
theorem iH (w : World) (s : ByteArray) (pos : Nat) : Below w.heap.size w (w.iter s pos) := (Below.refl _ w).alloc (Nat.le_refl _) _
set_option maxRecDepth 100000 in
set_option maxHeartbeats 4000000 in
theorem wG (s some : ByteArray) (hs : ∀ c ∈ some.data.toList, c.toNat < 128) (a : Nat) (ha : a ≤ s.size) (hl : s.size ≤ 4611686018427387904) (w : World) :
    Calls Tryz.prog 25 #[.string s, .int .i64 a, .string some] w fun e w' => e = .returned (.int .i64 (bP some.data.toList (s.extract a s.size).data.toList)) ∧ Below w.heap.size w w' := by
  generalize ht : s.extract a s.size = t
  have hts : t.size = s.size - a := by rw [← ht, ByteArray.size_extract]; omega
  have hget : ∀ j (hj : j < t.size), t.data.toList[j]'(by simpa using hj) = t[j] := fun j hj => rfl
  go_enter Tryz.func25, Tryz.ntmps25
  go_wp2
  go_loopw [7] (fun _ w' => ∃ pos : Nat, w' = w.iter t pos ∧ pos ≤ t.size ∧ ∀ j (hj : j < t.size), j < pos → some.data.toList.contains t[j] = true) (fun _ w' => t.size - w'.iterPos w.heap.size)
  case atStart => exact ⟨0, rfl, Nat.zero_le _, fun j _ h => absurd h (by omega)⟩
  case round =>
    obtain ⟨pos, rfl, hpos, hall⟩ := hrel
    by_cases hp : pos < t.size
    · have hnx : ∀ ty, (Instr.next (.pointer (Option.some ⟨w.heap.size, 0, none⟩)) true ty).run Tryz.prog (w.iter t pos) = _ := fun ty => run_next_any w t pos ty hp
      by_cases hb : (t[pos]).toNat < 128
      · rw [decode_ascii t pos hp hb] at hnx
        have hidx := rJ some ((t[pos]).toNat : Int) (w.iter t (pos + 1))
        simp only [Int.toNat_natCast, UInt8.ofNat_toNat] at hidx
        have hnn := firstIdx_nonneg some t[pos]
        have h127 : ¬ (127 : Int) < ((t[pos]).toNat : Int) := by omega
        have hcv : IntKind.u8.wrap ((t[pos]).toNat : Int) = ((t[pos]).toNat : Int) := by
          have := (t[pos]).toNat_lt
          rw [IntKind.wrap_u8]; omega
        by_cases hm : some.data.toList.contains t[pos] = true
        · have h0 : ¬ firstIdx some t[pos] < 0 := by
            have e : (some.data.toList.any fun x => x == t[pos]) = true := by rw [List.any_eq_true]; exact ⟨_, List.contains_iff_mem.1 hm, by simp⟩
            rw [e] at hnn
            have := of_decide_eq_true hnn
            omega
          clear hnn
          go_wp2_with (first | (go_at_call 55; refine hidx.mono ?_; rintro e W ⟨rfl, rfl⟩) | fail)
          go_roundw
          case rel =>
            refine ⟨pos + 1, rfl, by omega, fun j hj hjp => ?_⟩
            by_cases hjq : j = pos
            · subst hjq; exact hm
            · exact hall j hj (by omega)
          case measure =>
            simp
            omega
        · have h0 : firstIdx some t[pos] < 0 := by
            have e : (some.data.toList.any fun x => x == t[pos]) = false := by
              rw [List.any_eq_false]; intro x hx hxe; rw [beq_iff_eq] at hxe; subst hxe; exact hm (List.contains_iff_mem.2 hx)
            rw [e] at hnn
            have := of_decide_eq_false hnn
            omega
          clear hnn
          go_wp2_with (first | (go_at_call 55; refine hidx.mono ?_; rintro e W ⟨rfl, rfl⟩) | fail)
          go_ret
          have e := mF (some := some.data.toList) (l := t.data.toList) (p := pos) (by simpa using hp) (fun j hj hjp => hall j (by simpa using hj) hjp) (Bool.eq_false_iff.2 hm)
          rw [e]
          exact ⟨rfl, iH _ _ _⟩
      · have hdh := (decode_high t pos hp (by omega)).1
        have h127 : (127 : Int) < ((Utf8.decode t pos).1 : Int) := by omega
        go_wp2
        go_ret
        have hm : some.data.toList.contains t[pos] = false := by
          cases h : some.data.toList.contains t[pos] with
          | false => rfl
          | true => exact absurd (hs _ (List.contains_iff_mem.1 h)) hb
        have e := mF (some := some.data.toList) (l := t.data.toList) (p := pos) (by simpa using hp) (fun j hj hjp => hall j (by simpa using hj) hjp) hm
        rw [e]
        exact ⟨rfl, iH _ _ _⟩
    · have hnx : ∀ ty, (Instr.next (.pointer (Option.some ⟨w.heap.size, 0, none⟩)) true ty).run Tryz.prog (w.iter t pos) = _ := fun ty => run_next_end w t pos ty hp
      go_wp2
      go_ret
      have hpt : pos = t.size := by omega
      have e := ul (some := some.data.toList) (l := t.data.toList) fun j hj => hall j (by simpa using hj) (by rw [hpt]; simpa using hj)
      rw [e]
      have e2 : (s.size : Int) - (a : Int) = (t.data.toList.length : Int) := by
        have : t.data.toList.length = t.size := by simp
        rw [this]; omega
      exact ⟨by rw [← e2]; rfl, iH _ _ _⟩
abbrev bs (l : List UInt8) : AV := .c (.string ⟨l.toArray⟩)
theorem qQ (l some : List UInt8) (hs : ∀ c ∈ some, c.toNat < 128) (a : Nat) (ha : a ≤ l.length) (hl : l.length ≤ 4611686018427387904) :
    AFn Tryz.prog 25 [bs l, .c (.int .i64 a), bs some] [] (.c (.int .i64 (bP some (l.drop a)))) [] :=
  lc fun w G vs hag hgl hs' hargs => by
    have h0 := cV (hargs 0 (by simp))
    have h1 := cV (hargs 1 (by simp))
    have h2 := cV (hargs 2 (by simp))
    obtain rfl := vN hs' h0 h1 h2
    have h := wG ⟨l.toArray⟩ ⟨some.toArray⟩ hs a ha hl w
    rw [show (ByteArray.mk l.toArray).size = l.length from rfl, ByteArray.extract_mk] at h
    have e : (ByteArray.mk ((l.drop a).take (l.length - a)).toArray).data.toList = l.drop a := by
      show (l.drop a).take (l.length - a) = l.drop a
      rw [List.take_of_length_le (by simp)]
    rw [e] at h
    exact h
end Go.Proofs.YtpkcgdikbjaoaaaGreatDoor
namespace Go.Proofs.YtpkcgdikbjaoaaaGreatDoor
set_option linter.unusedSimpArgs false
set_option linter.unusedVariables false
open Go.RowKit
theorem wX {α β : Type} {f : α → List β} {l : List α} {k : Nat} (h : k < l.length) : (l.take (k + 1)).flatMap f = (l.take k).flatMap f ++ f l[k] := by
  rw [List.take_succ_eq_append_getElem h, List.flatMap_append]; simp
theorem BY {α β : Type} {f : α → List β} {l : List α} {k : Nat} (h : k < l.length) : ((l.take k).flatMap f).length + (f l[k]).length ≤ (l.flatMap f).length := by
  have e : l.flatMap f = (l.take (k + 1)).flatMap f ++ (l.drop (k + 1)).flatMap f := by rw [← List.flatMap_append, List.take_append_drop]
  rw [e, wX h]; simp only [List.length_append]; omega
theorem fH {α : Type} {f : α → List AV} {k : Nat} (hf : ∀ x, (f x).length = k) : ∀ l : List α, (l.flatMap f).length = l.length * k
  | [] => by simp
  | x :: l => by rw [List.flatMap_cons, List.length_append, hf, fH hf l, List.length_cons, Nat.succ_mul]; omega
theorem lA {α : Type} {f : α → List AV} {k : Nat} (hf : ∀ x, (f x).length = k) : ∀ {l : List α} {i : Nat} (h : i < l.length), ((l.flatMap f).drop (i * k)).take k = f l[i]
  | x :: l, 0, _ => by
    rw [Nat.zero_mul, List.drop_zero, List.flatMap_cons, List.take_append_of_le_length (by rw [hf]; exact Nat.le_refl _), List.take_of_length_le (by rw [hf]; exact Nat.le_refl _)]; rfl
  | x :: l, i + 1, h => by
    have := lA hf (l := l) (i := i) (by simpa using h)
    rw [List.flatMap_cons, List.drop_append]
    have e : (i + 1) * k - (f x).length = i * k := by rw [hf, Nat.succ_mul]; omega
    rw [e, List.drop_of_length_le (by rw [hf, Nat.succ_mul]; omega), List.nil_append, this]; rfl
theorem ja {α : Type} {f : α → List AV} {k : Nat} (hf : ∀ x, (f x).length = k) {l : List α} {i : Nat} (h : i < l.length) (j : Nat) (hj : j < k) : (l.flatMap f).getD (i * k + j) .u = (f l[i]).getD j .u := by
  have e := congrArg (fun x => x.getD j .u) (lA hf h)
  simp only [List.getD_eq_getElem?_getD] at e ⊢
  rw [← e, List.getElem?_take, if_pos hj, List.getElem?_drop]
theorem tm {α : Type} {f : α → List AV} {k : Nat} (hf : ∀ x, (f x).length = k) {l : List α} {i : Nat} (h : i < l.length) (hj : 0 < k) : (l.flatMap f).getD (i * k) .u = (f l[i]).getD 0 .u := ja hf h 0 hj
theorem lj {α : Type} {f : α → AV} {l : List α} {i : Nat} (h : i < l.length) : (l.map f).getD i .u = f l[i] := by
  rw [List.getD_eq_getElem?_getD, List.getElem?_map, List.getElem?_eq_getElem h]; rfl
theorem AC {α : Type} {f : α → List AV} {k : Nat} (hf : ∀ x, (f x).length = k) {l : List α} {i : Nat} (h : i < l.length) (j n : Nat) (hj : j + n ≤ k) : ((l.flatMap f).drop (i * k + j)).take n = ((f l[i]).drop j).take n := by
  rw [← lA hf h, List.drop_take, List.take_take, List.drop_drop, Nat.min_eq_left (by omega)]
theorem y4 {α : Type} (f : α → AV) : ∀ l : List α, l.map f = l.flatMap fun z => [f z]
  | [] => rfl
  | x :: l => by rw [List.map_cons, List.flatMap_cons, ← y4 f l]; rfl
end Go.Proofs.YtpkcgdikbjaoaaaGreatDoor
namespace Go.Proofs.YtpkcgdikbjaoaaaGreatDoor
set_option linter.unusedSimpArgs false
set_option linter.unusedVariables false
open Go.RowKit
theorem Ap {E : Env} {Q Q' : Exit → ba → Prop} {σ : ba} {c : Code} (hq : ∀ e s, Q' e s → Q e s) (h : aw E c Q' σ) : aw E c Q σ := fun a w G hs =>
  Code.wp_mono (fun e a' w' ⟨σ', G', h1, h2⟩ => ⟨σ', G', hq _ _ h1, h2⟩) (h a w G hs)
theorem vD {E : Env} {Q Q' : Exit → ba → Prop} {σ : ba} {c : Code} (hq : ∀ e s, Q' e s → Q e s) (h : awl E c Q' σ) : awl E c Q σ := fun a w G hs b k cs => by
  obtain ⟨e, a', w', ⟨σ', G', h1, h2⟩, harr⟩ := h a w G hs b k cs
  exact ⟨e, a', w', ⟨σ', G', hq _ _ h1, h2⟩, harr⟩
def rk (i : Nat) (R : ba → Prop) (Q : Exit → ba → Prop) : Exit → ba → Prop
  | .exit j, s => if j = i then R s else Q (.exit j) s
  | e, s => Q e s
theorem xq {E : Env} {Q : Exit → ba → Prop} {σ : ba} {c : Code} (i : Nat) (R : ba → Prop) (h : ∀ s, R s → Q (.exit i) s) (hl : awl E c (rk i R Q) σ) : awl E c Q σ := by
  refine vD (fun e s => ?_) hl
  cases e with
  | exit j =>
    simp only [rk]
    split
    · rename_i e; subst e; exact h s
    · exact id
  | _ => exact id
theorem yi {i : Nat} {R : ba → Prop} {Q : Exit → ba → Prop} {s : ba} (h : R s) : rk i R Q (.exit i) s := by simp only [rk, if_true]; exact h
theorem CP {i : Nat} {R : ba → Prop} {Q : Exit → ba → Prop} {s : ba} (h : Q .ret s) : rk i R Q .ret s := h
theorem Be {i j : Nat} {R : ba → Prop} {Q : Exit → ba → Prop} {s : ba} (hj : ¬ j = i) (h : Q (.exit j) s) : rk i R Q (.exit j) s := by simp only [rk, if_neg hj]; exact h
theorem Ai {E : Env} {σ : ba} : ALe E σ σ := fun a w G hs => ⟨G, hs⟩
end Go.Proofs.YtpkcgdikbjaoaaaGreatDoor

/- trammellaw00.Is and Told, in K. strings.IndexByte and scan.run, in the world; then in K. Lists laid side by side. No program is in sight. K: a loop cut from what comes behind it. No program is in sight. -/
import Derived.Test.YtpkcgdikbjaoaaaDoorZ0
import Derived.Test.YtpkcgdikbjaoaaaDoorZ6
import Derived.Lib.Bytealg
import Derived.Laws.StandIn
import Derived.Laws.RangeAny
import Derived.Laws.Runes
import Derived.LoopTactic
import Derived.Test.YtpkcgdikbjaoaaaDoorZ5
namespace Go.Proofs.YtpkcgdikbjaoaaaDoor
set_option linter.unusedSimpArgs false
set_option linter.unusedVariables false
open Go.RowKit
theorem ie {P : Program} {f : FuncId} {args : List AV} {x : Value}
    (h : ∀ (w : World) (G : Gh) (vs : Array Value), (∀ b o v, G.Z b o = some v → w.cell? ⟨b, o, none⟩ = some v ∧ v.oneCell' = true) → Gl G.Z → vs.size = args.length → (∀ j (h : j < args.length), VRel G (bm []) (vs.getD j undef) args[j]) →
      Calls P f vs w fun e w' => e = .returned x ∧ Below w.heap.size w w') : AFn P f args [] (.c x) [] := fun w G vs hst hvs hargs => by
  have hu : ∀ k, bm [] k = .u := fun k => by unfold bm; split <;> simp
  have hγ : ∀ k, G.γ k = none := fun k => by
    cases hg : G.γ k with
    | none => rfl
    | some g =>
      obtain ⟨_, _, hb⟩ := hst.box k g hg
      rcases hb with ⟨_, _, h1, _⟩ | ⟨_, _, h1, _⟩ <;> rw [hu] at h1 <;> cases h1
  refine (h w G vs hst.agree hst.gl hvs hargs).mono fun e w' ⟨he, hb⟩ => ⟨x, G, he, .p (.c x), ⟨fun b o v hz => ?_, fun k g hk => ?_, fun k cs ty _ hc => ?_, fun k k' g hk => ?_, hst.gl⟩, ⟨hb.os, hb.tape, hb.output, hb.size, fun b hp _ => hb.block b hp.1⟩, .refl _ _, fun _ _ _ _ => rfl⟩
  · have := hst.agree b o v hz
    exact ⟨(hb.cell (p := ⟨b, o, none⟩) (World.block_lt_of_cell? w ⟨b, o, none⟩ this.1)).trans this.1, this.2⟩
  · rw [hγ] at hk; cases hk
  · rw [hu] at hc; cases hc
  · rw [hγ] at hk; cases hk
theorem gV {G : Gh} {w : World} (hag : ∀ b o v, G.Z b o = some v → w.cell? ⟨b, o, none⟩ = some v ∧ v.oneCell' = true) (hgl : Gl G.Z) : w.cell? ⟨1, 0, none⟩ = some (rty 25) := by
  have h := hgl 1 _ rfl
  obtain ⟨b, off, f, e, hz, hp⟩ := ep (VRel.p (G := G) (B := bm []) h)
  have h1 := hz 0 (by simp)
  have h2 := hp 0 (by simp)
  have h3 := (hag _ _ _ h1).1
  obtain ⟨v', e2, h4⟩ := cr (VRel.p (G := G) (B := bm []) h2)
  obtain ⟨vs, e3, hs, _, hp4⟩ := dt h4
  have h5 := bF (hp4 0 (by simp))
  have e4 : vs = #[hnd 25] := by
    cases vs with
    | mk l =>
      match l, hs with
      | [v0], _ => simp at h5; subst h5; rfl
  subst e4
  subst e3
  rw [e2] at h3
  simp only [Value.pointer.injEq, Option.some.injEq, Addr.mk.injEq] at e
  obtain ⟨q1, q2, _⟩ := e
  rw [← q1, Nat.add_zero, show off = 0 by omega] at h3
  exact h3
def iv (at0 : Int) (e : Nat) : AV := .ifc 60 (.rf [.c (.int .i64 at0), cT e] 0)
theorem ow (a0 at0 : Int) (e c : Nat) (he : e ≠ 0) : AFn Tryd.prog 8 [iv a0 e, .c (.int .i64 at0), .c (.int .i64 c)] [] (.c (.bool (((e : Int) == (c : Int)) && (a0 == at0)))) [] :=
  ie fun w G vs hag hgl hs hargs => by
    have h0 := hargs 0 (by simp)
    have h1 := bF (hargs 1 (by simp))
    have h2 := bF (hargs 2 (by simp))
    obtain ⟨v', e0, h3⟩ := cr h0
    obtain ⟨b, off, f, e1, hz, hp⟩ := ep h3
    subst e1
    have hc0 := (hag _ _ _ (hz 0 (by simp))).1
    have hc1 := (hag _ _ _ (hz 1 (by simp))).1
    have p0 := bF (VRel.p (G := G) (B := bm []) (hp 0 (by simp)))
    have p1 := hp 1 (by simp)
    simp only [List.getElem_cons_succ, List.getElem_cons_zero, cO he] at p0 p1
    obtain ⟨v2, e2, h4⟩ := cr (VRel.p (G := G) (B := bm []) p1)
    have h5 := bF h4
    subst h5
    rw [p0] at hc0
    rw [e2] at hc1
    obtain rfl : vs = #[.iface 60 (.pointer (some ⟨b, off + 0, none⟩)), .int .i64 at0, .int .i64 c] := by
      cases vs with
      | mk l =>
        match l, hs with
        | [x, y, z], _ =>
          simp at e0 h1 h2
          subst e0 h1 h2
          rfl
    exact mG b (off + 0) a0 e at0 c w hc0 hc1 (gV hag hgl)
theorem pK {vs : Array Value} {x y z : Value} (hs : vs.size = 3) (h0 : vs.getD 0 undef = x) (h1 : vs.getD 1 undef = y) (h2 : vs.getD 2 undef = z) : vs = #[x, y, z] := by
  cases vs with
  | mk l =>
    match l, hs with
    | [a, b, c], _ => simp at h0 h1 h2; subst h0 h1 h2; rfl
theorem to (at0 : Int) (a c : Nat) : AFn Tryd.prog 8 [cT a, .c (.int .i64 at0), .c (.int .i64 c)] [] (.c (.bool false)) [] :=
  ie fun w G vs hag hgl hs hargs => by
    have h0 := hargs 0 (by simp)
    have h1 := bF (hargs 1 (by simp))
    have h2 := bF (hargs 2 (by simp))
    by_cases ha : a = 0
    · subst ha
      have h3 := bF (x := .nilIface) h0
      obtain rfl := pK hs h3 h1 h2
      exact oI c at0 w
    · simp only [List.getElem_cons_zero, cO ha] at h0
      obtain ⟨v2, e2, h4⟩ := cr h0
      have h5 := bF h4
      subst h5
      obtain rfl := pK hs e2 h1 h2
      exact mF a c at0 w (gV hag hgl)
def mI (e : Nat) (at0 : Int) : AV := if at0 < 0 ∨ e = 0 then cT e else iv at0 e
def iG : Nat → List Nat
  | 0 => [0, 1, 2]
  | 1 => [0, 1, 2]
  | 2 => [0, 1]
  | 3 => [0, 1, 2]
  | _ => []
end Go.Proofs.YtpkcgdikbjaoaaaDoor
namespace Go.Proofs.YtpkcgdikbjaoaaaDoor
set_option linter.unusedSimpArgs false
set_option linter.unusedVariables false
open Go.RowKit Go.Extern
theorem mU (s : ByteArray) (c : Int) (w : World) :
    Calls Tryd.prog 19 #[.string s, .int .u8 c] w fun e w' => e = .returned (.int .i64 (firstIdx s c.toNat.toUInt8)) ∧ w' = w := by
  have hx := @run_callFunc_indexByte Tryd.prog 51 _ Tryd.func51 (by kernel_rfl) (by kernel_rfl) (by kernel_rfl) (by kernel_rfl)
  have hi : Calls Tryd.prog 38 #[.string s, .int .u8 c] w fun e w' => e = .returned (.int .i64 (firstIdx s c.toNat.toUInt8)) ∧ w' = w := by
    have he := run_indexByte_string (P := Tryd.prog) s c w
    go_enter Tryd.func38, Tryd.ntmps38
    go_wp2
    go_ret
    exact ⟨rfl, rfl⟩
  go_enter Tryd.func19, Tryd.ntmps19
  go_wp2_with (first | (go_at_call 38; refine hi.mono ?_; rintro e W ⟨rfl, rfl⟩) | fail)
  go_ret
  exact ⟨rfl, rfl⟩
def be (some l : List UInt8) : Nat := (l.takeWhile fun c => some.contains c).length
theorem jx {some l : List UInt8} {p : Nat} (hp : p < l.length) (h : ∀ j (hj : j < l.length), j < p → some.contains l[j] = true) (hn : some.contains l[p] = false) : be some l = p := by
  unfold be
  induction l generalizing p with
  | nil => simp at hp
  | cons x l ih =>
    cases p with
    | zero => simp at hn; simp [List.takeWhile_cons, hn]
    | succ p =>
      have h0 := h 0 (by simp) (by omega)
      simp only [List.getElem_cons_zero] at h0
      rw [List.takeWhile_cons, if_pos h0, List.length_cons, ih (Nat.lt_of_succ_lt_succ hp) (fun j hj hjp => h (j + 1) (Nat.succ_lt_succ hj) (Nat.succ_lt_succ hjp)) hn]
theorem oj {some l : List UInt8} (h : ∀ j (hj : j < l.length), some.contains l[j] = true) : be some l = l.length := by
  unfold be
  induction l with
  | nil => rfl
  | cons x l ih =>
    have h0 := h 0 (by simp)
    simp only [List.getElem_cons_zero] at h0
    rw [List.takeWhile_cons, if_pos h0, List.length_cons, ih fun j hj => h (j + 1) (Nat.succ_lt_succ hj)]
    rfl
theorem eP (w : World) (s : ByteArray) (pos : Nat) : Below w.heap.size w (w.iter s pos) := (Below.refl _ w).alloc (Nat.le_refl _) _
set_option maxRecDepth 100000 in
set_option maxHeartbeats 4000000 in
theorem qY (s some : ByteArray) (hs : ∀ c ∈ some.data.toList, c.toNat < 128) (a : Nat) (ha : a ≤ s.size) (hl : s.size ≤ 4611686018427387904) (w : World) :
    Calls Tryd.prog 9 #[.string s, .int .i64 a, .string some] w fun e w' => e = .returned (.int .i64 (be some.data.toList (s.extract a s.size).data.toList)) ∧ Below w.heap.size w w' := by
  generalize ht : s.extract a s.size = t
  have hts : t.size = s.size - a := by rw [← ht, ByteArray.size_extract]; omega
  have hget : ∀ j (hj : j < t.size), t.data.toList[j]'(by simpa using hj) = t[j] := fun j hj => rfl
  go_enter Tryd.func9, Tryd.ntmps9
  go_wp2
  go_loopw [7] (fun _ w' => ∃ pos : Nat, w' = w.iter t pos ∧ pos ≤ t.size ∧ ∀ j (hj : j < t.size), j < pos → some.data.toList.contains t[j] = true) (fun _ w' => t.size - w'.iterPos w.heap.size)
  case atStart => exact ⟨0, rfl, Nat.zero_le _, fun j _ h => absurd h (by omega)⟩
  case round =>
    obtain ⟨pos, rfl, hpos, hall⟩ := hrel
    by_cases hp : pos < t.size
    · have hnx : ∀ ty, (Instr.next (.pointer (Option.some ⟨w.heap.size, 0, none⟩)) true ty).run Tryd.prog (w.iter t pos) = _ := fun ty => run_next_any w t pos ty hp
      by_cases hb : (t[pos]).toNat < 128
      · rw [decode_ascii t pos hp hb] at hnx
        have hidx := mU some ((t[pos]).toNat : Int) (w.iter t (pos + 1))
        simp only [Int.toNat_natCast, UInt8.ofNat_toNat] at hidx
        have hnn := firstIdx_nonneg some t[pos]
        have h127 : ¬ (127 : Int) < ((t[pos]).toNat : Int) := by omega
        have hcv : IntKind.u8.wrap ((t[pos]).toNat : Int) = ((t[pos]).toNat : Int) := by
          have := (t[pos]).toNat_lt
          rw [IntKind.wrap_u8]; omega
        by_cases hm : some.data.toList.contains t[pos] = true
        · have h0 : ¬ firstIdx some t[pos] < 0 := by
            have e : (some.data.toList.any fun x => x == t[pos]) = true := by rw [List.any_eq_true]; exact ⟨_, List.contains_iff_mem.1 hm, by simp⟩
            rw [e] at hnn
            have := of_decide_eq_true hnn
            omega
          clear hnn
          go_wp2_with (first | (go_at_call 19; refine hidx.mono ?_; rintro e W ⟨rfl, rfl⟩) | fail)
          go_roundw
          case rel =>
            refine ⟨pos + 1, rfl, by omega, fun j hj hjp => ?_⟩
            by_cases hjq : j = pos
            · subst hjq; exact hm
            · exact hall j hj (by omega)
          case measure =>
            simp
            omega
        · have h0 : firstIdx some t[pos] < 0 := by
            have e : (some.data.toList.any fun x => x == t[pos]) = false := by
              rw [List.any_eq_false]; intro x hx hxe; rw [beq_iff_eq] at hxe; subst hxe; exact hm (List.contains_iff_mem.2 hx)
            rw [e] at hnn
            have := of_decide_eq_false hnn
            omega
          clear hnn
          go_wp2_with (first | (go_at_call 19; refine hidx.mono ?_; rintro e W ⟨rfl, rfl⟩) | fail)
          go_ret
          have e := jx (some := some.data.toList) (l := t.data.toList) (p := pos) (by simpa using hp) (fun j hj hjp => hall j (by simpa using hj) hjp) (Bool.eq_false_iff.2 hm)
          rw [e]
          exact ⟨rfl, eP _ _ _⟩
      · have hdh := (decode_high t pos hp (by omega)).1
        have h127 : (127 : Int) < ((Utf8.decode t pos).1 : Int) := by omega
        go_wp2
        go_ret
        have hm : some.data.toList.contains t[pos] = false := by
          cases h : some.data.toList.contains t[pos] with
          | false => rfl
          | true => exact absurd (hs _ (List.contains_iff_mem.1 h)) hb
        have e := jx (some := some.data.toList) (l := t.data.toList) (p := pos) (by simpa using hp) (fun j hj hjp => hall j (by simpa using hj) hjp) hm
        rw [e]
        exact ⟨rfl, eP _ _ _⟩
    · have hnx : ∀ ty, (Instr.next (.pointer (Option.some ⟨w.heap.size, 0, none⟩)) true ty).run Tryd.prog (w.iter t pos) = _ := fun ty => run_next_end w t pos ty hp
      go_wp2
      go_ret
      have hpt : pos = t.size := by omega
      have e := oj (some := some.data.toList) (l := t.data.toList) fun j hj => hall j (by simpa using hj) (by rw [hpt]; simpa using hj)
      rw [e]
      have e2 : (s.size : Int) - (a : Int) = (t.data.toList.length : Int) := by
        have : t.data.toList.length = t.size := by simp
        rw [this]; omega
      exact ⟨by rw [← e2]; rfl, eP _ _ _⟩
abbrev bs (l : List UInt8) : AV := .c (.string ⟨l.toArray⟩)
theorem lM (l some : List UInt8) (hs : ∀ c ∈ some, c.toNat < 128) (a : Nat) (ha : a ≤ l.length) (hl : l.length ≤ 4611686018427387904) :
    AFn Tryd.prog 9 [bs l, .c (.int .i64 a), bs some] [] (.c (.int .i64 (be some (l.drop a)))) [] :=
  ie fun w G vs hag hgl hs' hargs => by
    have h0 := bF (hargs 0 (by simp))
    have h1 := bF (hargs 1 (by simp))
    have h2 := bF (hargs 2 (by simp))
    obtain rfl := pK hs' h0 h1 h2
    have h := qY ⟨l.toArray⟩ ⟨some.toArray⟩ hs a ha hl w
    rw [show (ByteArray.mk l.toArray).size = l.length from rfl, ByteArray.extract_mk] at h
    have e : (ByteArray.mk ((l.drop a).take (l.length - a)).toArray).data.toList = l.drop a := by
      show (l.drop a).take (l.length - a) = l.drop a
      rw [List.take_of_length_le (by simp)]
    rw [e] at h
    exact h
end Go.Proofs.YtpkcgdikbjaoaaaDoor
namespace Go.Proofs.YtpkcgdikbjaoaaaDoor
set_option linter.unusedSimpArgs false
set_option linter.unusedVariables false
open Go.RowKit
theorem qD {α β : Type} {f : α → List β} {l : List α} {k : Nat} (h : k < l.length) : (l.take (k + 1)).flatMap f = (l.take k).flatMap f ++ f l[k] := by
  rw [List.take_succ_eq_append_getElem h, List.flatMap_append]; simp
theorem uz {α β : Type} {f : α → List β} {l : List α} {k : Nat} (h : k < l.length) : ((l.take k).flatMap f).length + (f l[k]).length ≤ (l.flatMap f).length := by
  have e : l.flatMap f = (l.take (k + 1)).flatMap f ++ (l.drop (k + 1)).flatMap f := by rw [← List.flatMap_append, List.take_append_drop]
  rw [e, qD h]; simp only [List.length_append]; omega
theorem gy {α : Type} {f : α → List AV} {k : Nat} (hf : ∀ x, (f x).length = k) : ∀ l : List α, (l.flatMap f).length = l.length * k
  | [] => by simp
  | x :: l => by rw [List.flatMap_cons, List.length_append, hf, gy hf l, List.length_cons, Nat.succ_mul]; omega
theorem iz {α : Type} {f : α → List AV} {k : Nat} (hf : ∀ x, (f x).length = k) : ∀ {l : List α} {i : Nat} (h : i < l.length), ((l.flatMap f).drop (i * k)).take k = f l[i]
  | x :: l, 0, _ => by
    rw [Nat.zero_mul, List.drop_zero, List.flatMap_cons, List.take_append_of_le_length (by rw [hf]; exact Nat.le_refl _), List.take_of_length_le (by rw [hf]; exact Nat.le_refl _)]; rfl
  | x :: l, i + 1, h => by
    have := iz hf (l := l) (i := i) (by simpa using h)
    rw [List.flatMap_cons, List.drop_append]
    have e : (i + 1) * k - (f x).length = i * k := by rw [hf, Nat.succ_mul]; omega
    rw [e, List.drop_of_length_le (by rw [hf, Nat.succ_mul]; omega), List.nil_append, this]; rfl
theorem oZ {α : Type} {f : α → List AV} {k : Nat} (hf : ∀ x, (f x).length = k) {l : List α} {i : Nat} (h : i < l.length) (j : Nat) (hj : j < k) : (l.flatMap f).getD (i * k + j) .u = (f l[i]).getD j .u := by
  have e := congrArg (fun x => x.getD j .u) (iz hf h)
  simp only [List.getD_eq_getElem?_getD] at e ⊢
  rw [← e, List.getElem?_take, if_pos hj, List.getElem?_drop]
theorem t9 {α : Type} {f : α → List AV} {k : Nat} (hf : ∀ x, (f x).length = k) {l : List α} {i : Nat} (h : i < l.length) (hj : 0 < k) : (l.flatMap f).getD (i * k) .u = (f l[i]).getD 0 .u := oZ hf h 0 hj
theorem kV {α : Type} {f : α → AV} {l : List α} {i : Nat} (h : i < l.length) : (l.map f).getD i .u = f l[i] := by
  rw [List.getD_eq_getElem?_getD, List.getElem?_map, List.getElem?_eq_getElem h]; rfl
theorem uj {α : Type} {f : α → List AV} {k : Nat} (hf : ∀ x, (f x).length = k) {l : List α} {i : Nat} (h : i < l.length) (j n : Nat) (hj : j + n ≤ k) : ((l.flatMap f).drop (i * k + j)).take n = ((f l[i]).drop j).take n := by
  rw [← iz hf h, List.drop_take, List.take_take, List.drop_drop, Nat.min_eq_left (by omega)]
theorem sO {α : Type} (f : α → AV) : ∀ l : List α, l.map f = l.flatMap fun z => [f z]
  | [] => rfl
  | x :: l => by rw [List.map_cons, List.flatMap_cons, ← sO f l]; rfl
end Go.Proofs.YtpkcgdikbjaoaaaDoor
namespace Go.Proofs.YtpkcgdikbjaoaaaDoor
set_option linter.unusedSimpArgs false
set_option linter.unusedVariables false
open Go.RowKit
theorem t6 {E : Env} {Q Q' : Exit → aI → Prop} {σ : aI} {c : Code} (hq : ∀ e s, Q' e s → Q e s) (h : aw E c Q' σ) : aw E c Q σ := fun a w G hs =>
  Code.wp_mono (fun e a' w' ⟨σ', G', h1, h2⟩ => ⟨σ', G', hq _ _ h1, h2⟩) (h a w G hs)
theorem ph {E : Env} {Q Q' : Exit → aI → Prop} {σ : aI} {c : Code} (hq : ∀ e s, Q' e s → Q e s) (h : awl E c Q' σ) : awl E c Q σ := fun a w G hs b k cs => by
  obtain ⟨e, a', w', ⟨σ', G', h1, h2⟩, harr⟩ := h a w G hs b k cs
  exact ⟨e, a', w', ⟨σ', G', hq _ _ h1, h2⟩, harr⟩
def m3 (i : Nat) (R : aI → Prop) (Q : Exit → aI → Prop) : Exit → aI → Prop
  | .exit j, s => if j = i then R s else Q (.exit j) s
  | e, s => Q e s
theorem uc {E : Env} {Q : Exit → aI → Prop} {σ : aI} {c : Code} (i : Nat) (R : aI → Prop) (h : ∀ s, R s → Q (.exit i) s) (hl : awl E c (m3 i R Q) σ) : awl E c Q σ := by
  refine ph (fun e s => ?_) hl
  cases e with
  | exit j =>
    simp only [m3]
    split
    · rename_i e; subst e; exact h s
    · exact id
  | _ => exact id
theorem uu {i : Nat} {R : aI → Prop} {Q : Exit → aI → Prop} {s : aI} (h : R s) : m3 i R Q (.exit i) s := by simp only [m3, if_true]; exact h
theorem uG {i : Nat} {R : aI → Prop} {Q : Exit → aI → Prop} {s : aI} (h : Q .ret s) : m3 i R Q .ret s := h
theorem vZ {i j : Nat} {R : aI → Prop} {Q : Exit → aI → Prop} {s : aI} (hj : ¬ j = i) (h : Q (.exit j) s) : m3 i R Q (.exit j) s := by simp only [m3, if_neg hj]; exact h
theorem tS {E : Env} {σ : aI} : ALe E σ σ := fun a w G hs => ⟨G, hs⟩
end Go.Proofs.YtpkcgdikbjaoaaaDoor

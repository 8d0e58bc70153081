/- Layer 1: the value of a form. -/
import Derived.Test.YtdieipdbkpcgmaaLin
import Derived.BigGuardPart
namespace Go.Proofs.Ytdieipdbkpcgmaa
set_option linter.unusedSimpArgs false
set_option linter.unusedVariables false
open Go.RowKit

def IsInt (z : Int) (cs : List Value) : Prop := cs = [.int .i64 z] ∧ I64 z
def IsInts (w : World) (v : Value) (l : List Int) : Prop := SliceOf w 1 IsInt v l
theorem IsInts.mono {w W : World} {v : Value} {l : List Int} (h : IsInts w v l) (hg : Below w.heap.size w W) : IsInts W v l := SliceOf.mono h hg fun _ _ _ h => h

def valAt (vals : List Int) (v : Int) : Int := if v < vals.length then vals.getD v.toNat 0 else 0
def farB (x : Int) : Bool := decide (x < -16777216) || decide (16777216 < x)
def dot (vals : List Int) : List Mono → Int
  | [] => 0
  | m :: T => m.K * valAt vals m.V + dot vals T
def anyFar (vals : List Int) (T : List Mono) : Bool := T.any fun m => farB (valAt vals m.V)
def linVal (L : Lin) (vals : List Int) : Int := if linOk L = true ∧ anyFar vals L.T = false then L.C + dot vals L.T else 0
def linValErr (L : Lin) (vals : List Int) : Int := if linOk L = true then (if anyFar vals L.T = true then 1 else 0) else 5

theorem dot_take_succ {vals : List Int} {T : List Mono} {k : Nat} (h : k < T.length) : dot vals (T.take (k + 1)) = dot vals (T.take k) + T[k].K * valAt vals T[k].V := by
  induction T generalizing k with
  | nil => simp at h
  | cons x T ih =>
    cases k with
    | zero => simp [dot]
    | succ k => simp only [List.take_succ_cons, dot, List.getElem_cons_succ]; rw [ih (by simpa using h)]; omega

theorem prod_bd {a b : Int} (ha1 : -1073741824 ≤ a) (ha2 : a ≤ 1073741824) (hb1 : -16777216 ≤ b) (hb2 : b ≤ 16777216) : -18014398509481984 ≤ a * b ∧ a * b ≤ 18014398509481984 := by
  have h1 : a.natAbs * b.natAbs ≤ 1073741824 * 16777216 := Nat.mul_le_mul (by omega) (by omega)
  rw [← Int.natAbs_mul] at h1
  omega

theorem linOk_at {L : Lin} (h : linOk L = true) {i : Nat} (hi : i < L.T.length) : okAt L.T i = true := by
  simp only [linOk, Bool.and_eq_true, List.all_eq_true] at h
  exact h.2 i (by simpa using hi)
theorem linOk_parts {L : Lin} (h : linOk L = true) : (-1073741824 ≤ L.C ∧ L.C ≤ 1073741824) ∧ L.T.length ≤ 64 := by
  simp only [linOk, Bool.and_eq_true, coefB, decide_eq_true_eq] at h
  exact h.1
theorem linOk_mono {L : Lin} (h : linOk L = true) {i : Nat} (hi : i < L.T.length) : (0 ≤ L.T[i].V ∧ L.T[i].V < 1048576) ∧ (-1073741824 ≤ L.T[i].K ∧ L.T[i].K ≤ 1073741824) := by
  have := linOk_at h hi
  simp only [okAt, getD_of hi, Bool.and_eq_true, varB, coefB, decide_eq_true_eq] at this
  exact this.1.1

/-- What the loop has, so far. -/
def DotPart (L : Lin) (vals : List Int) (k : Nat) (z : Int) : Prop := z = L.C + dot vals (L.T.take k) ∧ anyFar vals (L.T.take k) = false
theorem anyFar_succ {vals : List Int} {T : List Mono} {k : Nat} (h : k < T.length) : anyFar vals (T.take (k + 1)) = (anyFar vals (T.take k) || farB (valAt vals T[k].V)) := by
  unfold anyFar; rw [List.take_succ_eq_append_getElem h, List.any_append]; simp only [List.any_cons, List.any_nil, Bool.or_false]
theorem anyFar_hit {vals : List Int} {T : List Mono} {k : Nat} (h : k < T.length) (hf : farB (valAt vals T[k].V) = true) : anyFar vals T = true := by
  simp only [anyFar, List.any_eq_true]; exact ⟨_, List.getElem_mem h, hf⟩

/-- Where a variable's value lies. -/
theorem int_at {w : World} {v : Value} {l : List Int} (h : IsInts w v l) : ∃ a cap, v = .slice a l.length cap ∧ l.length ≤ 140737488351232 ∧ ∀ i, i < l.length → ∃ b o, a = some ⟨b, o, none⟩ ∧ Old w b ∧ w.cell? ⟨b, o + i, none⟩ = some (.int .i64 (l.getD i 0)) ∧ I64 (l.getD i 0) := by
  obtain ⟨a, cap, rfl, hl, _, hc⟩ := h
  refine ⟨a, cap, rfl, hl, fun i hi => ?_⟩
  obtain ⟨b, o, cs, ha, hb, ⟨rfl, h64⟩, _, hcell⟩ := hc i hi
  have e : l.getD i 0 = l[i] := by simp [List.getD, hi]
  have := hcell 0 (by simp)
  rw [e]
  exact ⟨b, o, ha, hb, by simpa using this, h64⟩

theorem linVal_no {L : Lin} {vals : List Int} (h : linOk L = false) : linVal L vals = 0 ∧ linValErr L vals = 5 := by simp [linVal, linValErr, h]
theorem linVal_far {L : Lin} {vals : List Int} (h : linOk L = true) (hf : anyFar vals L.T = true) : linVal L vals = 0 ∧ linValErr L vals = 1 := by simp [linVal, linValErr, h, hf]
theorem linVal_yes {L : Lin} {vals : List Int} (h : linOk L = true) (hf : anyFar vals L.T = false) : linVal L vals = L.C + dot vals L.T ∧ linValErr L vals = 0 := by simp [linVal, linValErr, h, hf]

/-- One round's number: the value, within the bounds or not. -/
theorem round_in {L : Lin} {vals : List Int} {k : Nat} {z x : Int} (hk : k < L.T.length) (hok : linOk L = true) (hz : DotPart L vals k z) (hx : x = valAt vals L.T[k].V) (hf : farB x = false) : DotPart L vals (k + 1) (z + L.T[k].K * x) := by
  subst hx
  obtain ⟨h1, h2⟩ := hz
  exact ⟨by rw [h1, dot_take_succ hk]; omega, by rw [anyFar_succ hk, h2, hf]; rfl⟩

theorem far_yes {x : Int} (h : x < -16777216 ∨ 16777216 < x) : farB x = true := by simpa [farB] using h
theorem far_no {x : Int} (h : ¬ (x < -16777216 ∨ 16777216 < x)) : farB x = false := by
  simp only [farB, Bool.or_eq_false_iff, decide_eq_false_iff_not]; exact not_or.1 h
theorem dot_end {L : Lin} {vals : List Int} {z : Int} (h : linOk L = true) (hp : DotPart L vals L.T.length z) : linVal L vals = z ∧ linValErr L vals = 0 := by
  obtain ⟨h1, h2⟩ := hp
  rw [List.take_length] at h1 h2
  rw [h1]; exact linVal_yes h h2

def ValPost (L : Lin) (vals : List Int) (w : World) (e : Ending) (w' : World) : Prop := e = .returned (.tuple #[.int .i64 (linVal L vals), errV (linValErr L vals)]) ∧ ∃ x, w' = ext w x

set_option maxHeartbeats 4000000 in
theorem linValue_any {L : Lin} {vT vV : Value} {vals : List Int} {w : World} (h : IsLin w L vT) (hv : IsInts w vV vals) (c : Int) (hc : c = L.C) :
    Calls Try.prog 43 #[.agg #[.int .i64 c, vT], vV] w (ValPost L vals w) := by
  subst hc
  have Hc := Lib.hid (fun W (g : Below w.heap.size w W) => linCheck_any L vT W (h.mono g))
  obtain ⟨aV, capV, rfl, hlV, hcV⟩ := int_at hv
  obtain ⟨hC, aT, capT, rfl, hlT, _, hcT⟩ := h
  have HcV := Lib.hid hcV
  have HcT := Lib.hid hcT
  clear hcV hcT hv
  rcases Bool.eq_false_or_eq_true (linOk L) with hok | hok
  · have hp := linOk_parts hok
    obtain ⟨⟨hC1, hC2⟩, hl64⟩ := hp
    have e0 : linErr L = 0 := by simp [linErr, hok]
    rw [e0] at Hc
    have Hc := Lib.hid (fun W (g : Below w.heap.size w W) (c : Int) (hc : c = L.C) => (show Calls Try.prog 39 #[.agg #[.int .i64 c, .slice aT L.T.length capT]] W fun e w' => e = .returned .nilIface ∧ ∃ x, w' = ext W x by subst hc; exact Hc.out W g))
    have Hok := Lib.hid hok; clear hok e0
    go_enter Try.func43, Try.ntmps43
    go_wp2_with (first | (go_at_call 39; refine (Hc.out _ (by repeat (first | exact grew_refl _ | (with_reducible assumption) | refine grew_alloc ?_ _ | refine grew_ext ?_ _ | refine grew_drew ?_ | refine grew_drewN ?_ _)) _ (by first | rfl | omega)).mono ?_; rintro e w' ⟨rfl, y, rfl⟩))
    go_loopw [7, 21] (fun out i wr => ∃ (k : Nat) (z : Int) (x : World), k ≤ L.T.length ∧ i = .int .i64 k ∧ out = .int .i64 z ∧ wr = ext (ext (w.alloc (.cells #[.int .i64 L.C, .slice aT L.T.length capT] 29)) y) x ∧ Hid (DotPart L vals k z) ∧ -1073741824 - k * 18014398509481984 ≤ z ∧ z ≤ 1073741824 + k * 18014398509481984) (fun _ i _ => L.T.length - (intOf i).toNat)
    case atStart => exact ⟨0, L.C, _, by omega, rfl, rfl, (ext_of (grew_refl _)).symm, Lib.hid ⟨by simp [dot], rfl⟩, by omega, by omega⟩
    case round =>
      obtain ⟨k, z, x, hk, rfl, rfl, rfl, hp, hz1, hz2⟩ := hrel
      by_cases hlt : k < L.T.length
      · obtain ⟨b, o, cs, rfl, hb, ⟨rfl, _, _⟩, _, hcell⟩ := HcT.out k hlt
        have hc0 := hcell 0 (by simp)
        have hc1 := hcell 1 (by simp)
        simp only [Nat.add_zero, List.getElem_cons_zero, List.getElem_cons_succ] at hc0 hc1
        obtain ⟨⟨hV1, hV2⟩, hK1, hK2⟩ := linOk_mono Hok.out hlt
        have Hin := Lib.hid (fun x => round_in (L := L) (vals := vals) (z := z) (x := x) hlt Hok.out hp.out)
        have Hhit := Lib.hid (anyFar_hit (vals := vals) hlt)
        have Hval := Lib.hid (rfl : valAt vals L.T[k].V = valAt vals L.T[k].V)
        generalize L.T[k] = m at *
        clear hcell
        by_cases hV : m.V < vals.length
        · obtain ⟨bv, ov, ra, hbv, hcv, h64⟩ := HcV.out m.V.toNat (by omega)
          subst ra
          have hx : vals.getD m.V.toNat 0 = valAt vals m.V := by simp [valAt, hV]
          rw [hx] at hcv
          have Hx := Lib.hid hx; clear hx
          generalize valAt vals m.V = x1 at *
          by_cases hf : x1 < -16777216 ∨ 16777216 < x1
          · have Hf := Lib.hid (linVal_far Hok.out (Hhit.out (far_yes hf)))
            rcases hf with hf | hf
            all_goals
              go_wp2_with fail
              go_ret2
              exact ⟨by rw [Hf.out.1, Hf.out.2]; rfl, ext_intro (by repeat (first | exact grew_refl _ | (with_reducible assumption) | refine grew_alloc ?_ _ | refine grew_ext ?_ _ | refine grew_drew ?_ | refine grew_drewN ?_ _))⟩
          · have Hst := Lib.hid (Hin.out x1 Hval.out (far_no hf))
            obtain ⟨hf1, hf2⟩ := not_or.1 hf
            clear hf
            have hpb := prod_bd hK1 hK2 (Int.not_lt.1 hf1) (Int.not_lt.1 hf2)
            obtain ⟨hp1, hp2⟩ := hpb
            go_wp2_with fail
            go_roundw
            case rel => exact ⟨k + 1, _, _, by omega, by go_num, rfl, (ext_of (by repeat (first | exact grew_refl _ | (with_reducible assumption) | refine grew_alloc ?_ _ | refine grew_ext ?_ _ | refine grew_drew ?_ | refine grew_drewN ?_ _))).symm, Hst, by omega, by omega⟩
            case measure => simp [intOf]; omega
        · have hx : (0 : Int) = valAt vals m.V := by simp [valAt, hV]
          have Hst := Lib.hid (Hin.out 0 (hx.trans Hval.out) (by decide))
          clear hx
          go_wp2_with fail
          go_roundw
          case rel => exact ⟨k + 1, _, _, by omega, by go_num, by simp, (ext_of (by repeat (first | exact grew_refl _ | (with_reducible assumption) | refine grew_alloc ?_ _ | refine grew_ext ?_ _ | refine grew_drew ?_ | refine grew_drewN ?_ _))).symm, Hst, by omega, by omega⟩
          case measure => simp [intOf]; omega
      · obtain rfl : k = L.T.length := by omega
        have Hf := Lib.hid (dot_end Hok.out hp.out)
        clear hp
        go_wp2_with fail
        go_ret2
        exact ⟨by rw [Hf.out.1, Hf.out.2]; rfl, ext_intro (by repeat (first | exact grew_refl _ | (with_reducible assumption) | refine grew_alloc ?_ _ | refine grew_ext ?_ _ | refine grew_drew ?_ | refine grew_drewN ?_ _))⟩
  · have e0 : linErr L = 5 := by simp [linErr, hok]
    rw [e0] at Hc
    have Hc := Lib.hid (fun W (g : Below w.heap.size w W) (c : Int) (hc : c = L.C) => (show Calls Try.prog 39 #[.agg #[.int .i64 c, .slice aT L.T.length capT]] W fun e w' => e = .returned (.iface 32 (.int .i64 5)) ∧ ∃ x, w' = ext W x by subst hc; exact Hc.out W g))
    have Hf := Lib.hid (linVal_no (vals := vals) hok); clear hok e0
    go_enter Try.func43, Try.ntmps43
    go_wp2_with (first | (go_at_call 39; refine (Hc.out _ (by repeat (first | exact grew_refl _ | (with_reducible assumption) | refine grew_alloc ?_ _ | refine grew_ext ?_ _ | refine grew_drew ?_ | refine grew_drewN ?_ _)) _ (by first | rfl | omega)).mono ?_; rintro e w' ⟨rfl, y, rfl⟩))
    go_ret2
    exact ⟨by rw [Hf.out.1, Hf.out.2]; rfl, ext_intro (by repeat (first | exact grew_refl _ | (with_reducible assumption) | refine grew_alloc ?_ _ | refine grew_ext ?_ _ | refine grew_drew ?_ | refine grew_drewN ?_ _))⟩
end Go.Proofs.Ytdieipdbkpcgmaa

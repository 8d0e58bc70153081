/- The document's answers: the value of a form; variables whose values are too great; whether a variable stands in a formula. -/
import Derived.Test.YtdieipdbkpcgmaaRefA
import Derived.Test.YtdieipdbkpcgmaaFormG
namespace Go.Proofs.Ytdieipdbkpcgmaa
set_option linter.unusedSimpArgs false
set_option linter.unusedVariables false
open Go.RowKit

def RValPost (L : Lin) (vals : List Int) (w : World) (e : Ending) (w' : World) : Prop := e = .returned (.tuple #[.int .i64 (linVal L vals), .int .i64 (linValErr L vals)]) ∧ ∃ x, w' = ext w x

set_option maxRecDepth 100000 in
set_option maxHeartbeats 4000000 in
theorem rLinValue_any {L : Lin} {vT vV : Value} {vals : List Int} {w : World} (h : IsLin w L vT) (hv : IsInts w vV vals) (c : Int) (hc : c = L.C) :
    Calls Try.prog 45 #[.agg #[.int .i64 c, vT], vV] w (RValPost L vals w) := by
  subst hc
  have Hc := Lib.hid (fun W (g : Below w.heap.size w W) => rLinCheck_c (h.mono g))
  have Hof := Lib.hid (fun W (g : Below w.heap.size w W) => rOf_any (hv.mono g))
  obtain ⟨aV, capV, rfl, hlV, hcV⟩ := int_at hv
  obtain ⟨hC, aT, capT, rfl, hlT, _, hcT⟩ := h
  have HcV := Lib.hid hcV
  have HcT := Lib.hid hcT
  clear hcV hcT hv
  rcases Bool.eq_false_or_eq_true (linOk L) with hok | hok
  · have hp := linOk_parts hok
    obtain ⟨⟨hC1, hC2⟩, hl64⟩ := hp
    rw [hok] at Hc
    have Hok := Lib.hid hok; clear hok
    go_enter Try.func45, Try.ntmps45
    go_wp2_with (first | (go_at_call 46; refine (Hc.out _ (by repeat (first | exact grew_refl _ | (with_reducible assumption) | refine grew_alloc ?_ _ | refine grew_ext ?_ _ | refine grew_drew ?_ | refine grew_drewN ?_ _)) _ (by first | rfl | omega)).mono ?_; rintro e w' ⟨rfl, y, rfl⟩))
    go_loopw [7, 8] (fun out i wr => ∃ (k : Nat) (z : Int) (x : World), k ≤ L.T.length ∧ i = .int .i64 k ∧ out = .int .i64 z ∧ wr = ext (ext (w.alloc (.cells #[.int .i64 L.C, .slice aT L.T.length capT] 29)) y) x ∧ Hid (DotPart L vals k z) ∧ -1073741824 - k * 18014398509481984 ≤ z ∧ z ≤ 1073741824 + k * 18014398509481984) (fun _ i _ => L.T.length - (intOf i).toNat)
    case atStart => exact ⟨0, L.C, _, by omega, rfl, rfl, (ext_of (grew_refl _)).symm, Lib.hid ⟨by simp [dot], rfl⟩, by omega, by omega⟩
    case round =>
      obtain ⟨k, z, x, hk, rfl, rfl, rfl, hp, hz1, hz2⟩ := hrel
      by_cases hlt : k < L.T.length
      · obtain ⟨b, o, cs, rfl, hb, ⟨rfl, _, _⟩, _, hcell⟩ := HcT.out k hlt
        have hc0 := hcell 0 (by simp)
        have hc1 := hcell 1 (by simp)
        simp only [Nat.add_zero, List.getElem_cons_zero, List.getElem_cons_succ] at hc0 hc1
        obtain ⟨⟨hV1, hV2⟩, hK1, hK2⟩ := linOk_mono Hok.out hlt
        have Hin := Lib.hid (fun x => round_in (L := L) (vals := vals) (z := z) (x := x) hlt Hok.out hp.out)
        have Hhit := Lib.hid (anyFar_hit (vals := vals) hlt)
        have Hcall := Lib.hid (fun W (g : Below w.heap.size w W) => Hof.out W g L.T[k].V hV1)
        generalize L.T[k] = m at *
        clear hcell
        have Hval := Lib.hid (rfl : valAt vals m.V = valAt vals m.V)
        generalize valAt vals m.V = x1 at *
        by_cases hf : x1 < -16777216 ∨ 16777216 < x1
        · have Hf := Lib.hid (linVal_far Hok.out (Hhit.out (far_yes hf)))
          rcases hf with hf | hf
          all_goals
            go_wp2_with fail
            refine (Hcall.out _ (by repeat (first | exact grew_refl _ | (with_reducible assumption) | refine grew_alloc ?_ _ | refine grew_ext ?_ _ | refine grew_drew ?_ | refine grew_drewN ?_ _))).mono ?_
            rintro e w' ⟨rfl, rfl⟩
            go_wp2_with fail
            go_ret2
            exact ⟨by rw [Hf.out.1, Hf.out.2]; rfl, ext_intro (by repeat (first | exact grew_refl _ | (with_reducible assumption) | refine grew_alloc ?_ _ | refine grew_ext ?_ _ | refine grew_drew ?_ | refine grew_drewN ?_ _))⟩
        · have Hst := Lib.hid (Hin.out x1 Hval.out (far_no hf))
          have Hst2 := Lib.hid (by have := Hst.out; rwa [Int.mul_comm] at this : DotPart L vals (k + 1) (z + x1 * m.K))
          obtain ⟨hf1, hf2⟩ := not_or.1 hf
          clear hf
          have hpb := prod_bd hK1 hK2 (Int.not_lt.1 hf1) (Int.not_lt.1 hf2)
          rw [Int.mul_comm] at hpb
          obtain ⟨hp1, hp2⟩ := hpb
          go_wp2_with fail
          refine (Hcall.out _ (by repeat (first | exact grew_refl _ | (with_reducible assumption) | refine grew_alloc ?_ _ | refine grew_ext ?_ _ | refine grew_drew ?_ | refine grew_drewN ?_ _))).mono ?_
          rintro e w' ⟨rfl, rfl⟩
          go_wp2_with fail
          go_roundw
          case rel => exact ⟨k + 1, _, _, by omega, by go_num, rfl, (ext_of (by repeat (first | exact grew_refl _ | (with_reducible assumption) | refine grew_alloc ?_ _ | refine grew_ext ?_ _ | refine grew_drew ?_ | refine grew_drewN ?_ _))).symm, Hst2, by omega, by omega⟩
          case measure => simp [intOf]; omega
      · obtain rfl : k = L.T.length := by omega
        have Hf := Lib.hid (dot_end Hok.out hp.out)
        clear hp
        go_wp2_with fail
        go_ret2
        exact ⟨by rw [Hf.out.1, Hf.out.2]; rfl, ext_intro (by repeat (first | exact grew_refl _ | (with_reducible assumption) | refine grew_alloc ?_ _ | refine grew_ext ?_ _ | refine grew_drew ?_ | refine grew_drewN ?_ _))⟩
  · rw [hok] at Hc
    have Hf := Lib.hid (linVal_no (vals := vals) hok); clear hok
    go_enter Try.func45, Try.ntmps45
    go_wp2_with (first | (go_at_call 46; refine (Hc.out _ (by repeat (first | exact grew_refl _ | (with_reducible assumption) | refine grew_alloc ?_ _ | refine grew_ext ?_ _ | refine grew_drew ?_ | refine grew_drewN ?_ _)) _ (by first | rfl | omega)).mono ?_; rintro e w' ⟨rfl, y, rfl⟩))
    go_ret2
    exact ⟨by rw [Hf.out.1, Hf.out.2]; rfl, ext_intro (by repeat (first | exact grew_refl _ | (with_reducible assumption) | refine grew_alloc ?_ _ | refine grew_ext ?_ _ | refine grew_drew ?_ | refine grew_drewN ?_ _))⟩

/-! Any of a formula's variables. -/
def anyV (p : Int → Bool) (F : Form) : Bool := (vars F).any p
theorem anyV_T {p : Int → Bool} {F : Form} {k : Nat} (h : k < F.L.T.length) (hp : p F.L.T[k].V = true) : anyV p F = true := by
  simp only [anyV, List.any_eq_true]
  exact ⟨_, by rw [vars_eq]; exact List.mem_append.2 (.inl (List.mem_map.2 ⟨_, List.getElem_mem h, rfl⟩)), hp⟩
theorem anyV_kid {p : Int → Bool} {F : Form} {k : Nat} (h : k < F.kids.length) (hp : anyV p F.kids[k] = true) : anyV p F = true := by
  simp only [anyV, List.any_eq_true] at hp ⊢
  obtain ⟨v, hv, hpv⟩ := hp
  exact ⟨v, by rw [vars_eq]; exact List.mem_append.2 (.inr (mem_vars (List.getElem_mem h) v hv)), hpv⟩
theorem anyV_none {p : Int → Bool} {F : Form} (h1 : ∀ i, i < F.L.T.length → p (F.L.T.getD i default).V = false) (h2 : ∀ i, i < F.kids.length → anyV p (F.kids.getD i default) = false) : anyV p F = false := by
  simp only [anyV, List.any_eq_false]
  intro v hv
  rw [vars_eq] at hv
  rcases List.mem_append.1 hv with hv | hv
  · obtain ⟨m, hm, rfl⟩ := List.mem_map.1 hv
    obtain ⟨i, hi, rfl⟩ := List.getElem_of_mem hm
    have := h1 i hi
    rw [getD_of hi] at this
    simp [this]
  · have : ∀ ks : List Form, (∀ G ∈ ks, anyV p G = false) → ∀ v ∈ varss ks, p v = false := fun ks => by
      induction ks with
      | nil => intro _ v hv; simp [varss] at hv
      | cons k ks ih =>
        intro hG v hv
        simp only [varss, List.mem_append] at hv
        rcases hv with hv | hv
        · have := hG k (by simp)
          simp only [anyV, List.any_eq_false] at this
          simpa using this v hv
        · exact ih (fun G h => hG G (by simp [h])) v hv
    have := this F.kids (fun G hG => by
      obtain ⟨i, hi, rfl⟩ := List.getElem_of_mem hG
      have := h2 i hi
      rwa [getD_of hi] at this) v hv
    simp [this]
theorem anyV_far (vals : List Int) (F : Form) : anyV (fun v => farB (valAt vals v)) F = farF vals F := rfl
def NonNeg (F : Form) : Prop := ∀ v ∈ vars F, 0 ≤ v
theorem NonNeg.kid {F : Form} (h : NonNeg F) {k : Nat} (hk : k < F.kids.length) : NonNeg F.kids[k] := fun v hv => h v (by rw [vars_eq]; exact List.mem_append.2 (.inr (mem_vars (List.getElem_mem hk) v hv)))
theorem NonNeg.T {F : Form} (h : NonNeg F) {k : Nat} (hk : k < F.L.T.length) : 0 ≤ F.L.T[k].V := h _ (by rw [vars_eq]; exact List.mem_append.2 (.inl (List.mem_map.2 ⟨_, List.getElem_mem hk, rfl⟩)))

def FarSaid (n : Nat) : Prop := ∀ (F : Form) (cs : List Value) (vV : Value) (vals : List Int) (w : World), IsForm w n F cs → IsInts w vV vals → NonNeg F →
  Calls Try.prog 29 #[.agg cs.toArray, vV] w fun e w' => e = .returned (.bool (anyV (fun v => farB (valAt vals v)) F)) ∧ ∃ x, w' = ext w x

set_option maxRecDepth 100000 in
set_option maxHeartbeats 4000000 in
theorem far_step (n : Nat) (ih : FarSaid n) : FarSaid (n + 1) := fun F cs vV vals w h hv hnn => by
  have Hih := Lib.hid ih
  have Hnn := Lib.hid hnn
  have Hvg := Lib.hid (fun W (g : Below w.heap.size w W) => hv.mono g)
  have Hof := Lib.hid (fun W (g : Below w.heap.size w W) => rOf_any (hv.mono g))
  obtain ⟨hK, vT, vK, rfl, ⟨hC, aT, capT, rfl, hlT, hcapT, hcT⟩, a, cap, rfl, hl, hcap, hc⟩ := h
  obtain ⟨aV, capV, rfl, hlV, _⟩ := int_at hv
  have Hc := Lib.hid hc
  have HcT := Lib.hid hcT
  clear hc hcT hv hnn
  go_enter Try.func29, Try.ntmps29
  go_wp2_with fail
  go_loopw [5] (fun i wr => ∃ (k : Nat) (x : World), k ≤ F.L.T.length ∧ i = .int .i64 k ∧ wr = ext (w.alloc (.cells #[.int .i64 F.K, .int .i64 F.L.C, .slice aT F.L.T.length capT, .slice a F.kids.length cap] 31)) x ∧ Hid (∀ i, i < k → farB (valAt vals (F.L.T.getD i default).V) = false)) (fun i _ => F.L.T.length - (intOf i).toNat)
  case atStart => exact ⟨0, _, by omega, rfl, (ext_of (grew_refl _)).symm, Lib.hid (fun i hi => absurd hi (Nat.not_lt_zero _))⟩
  case round =>
    obtain ⟨k, x, hk, rfl, rfl, hno⟩ := hrel
    by_cases hlt : k < F.L.T.length
    · obtain ⟨b, o, cs, rfl, hb, ⟨rfl, _, _⟩, _, hcell⟩ := HcT.out k hlt
      have hc0 := hcell 0 (by simp)
      simp only [Nat.add_zero, List.getElem_cons_zero] at hc0
      have hV1 := NonNeg.T Hnn.out hlt
      have Hhit := Lib.hid (anyV_T (p := fun v => farB (valAt vals v)) hlt)
      have Hst := Lib.hid (fun hf => none_succ (p := fun i => farB (valAt vals (F.L.T.getD i default).V)) hno.out (k := k) (by show farB (valAt vals (F.L.T.getD k default).V) = false; rw [getD_of hlt]; exact hf))
      have Hcall := Lib.hid (fun W (g : Below w.heap.size w W) => Hof.out W g F.L.T[k].V hV1)
      generalize F.L.T[k] = m at *
      clear hcell
      generalize valAt vals m.V = x1 at *
      by_cases hf : x1 < -16777216 ∨ 16777216 < x1
      · have Hf := Lib.hid (Hhit.out (far_yes hf))
        rcases hf with hf | hf
        all_goals
          go_wp2_with fail
          refine (Hcall.out _ (by repeat (first | exact grew_refl _ | (with_reducible assumption) | refine grew_alloc ?_ _ | refine grew_ext ?_ _ | refine grew_drew ?_ | refine grew_drewN ?_ _))).mono ?_
          rintro e w' ⟨rfl, rfl⟩
          go_wp2_with fail
          go_ret
          exact ⟨by rw [Hf.out]; rfl, ext_intro (by repeat (first | exact grew_refl _ | (with_reducible assumption) | refine grew_alloc ?_ _ | refine grew_ext ?_ _ | refine grew_drew ?_ | refine grew_drewN ?_ _))⟩
      · have Hn := Lib.hid (Hst.out (far_no hf))
        obtain ⟨hf1, hf2⟩ := not_or.1 hf
        clear hf
        go_wp2_with fail
        refine (Hcall.out _ (by repeat (first | exact grew_refl _ | (with_reducible assumption) | refine grew_alloc ?_ _ | refine grew_ext ?_ _ | refine grew_drew ?_ | refine grew_drewN ?_ _))).mono ?_
        rintro e w' ⟨rfl, rfl⟩
        go_wp2_with fail
        go_roundw
        case rel => exact ⟨k + 1, _, by omega, by go_num, (ext_of (by repeat (first | exact grew_refl _ | (with_reducible assumption) | refine grew_alloc ?_ _ | refine grew_ext ?_ _ | refine grew_drew ?_ | refine grew_drewN ?_ _))).symm, Hn⟩
        case measure => simp [intOf]; omega
    · have HT := Lib.hid (fun i (hi : i < F.L.T.length) => hno.out i (by omega))
      clear hno
      go_wp2_with fail
      go_loopw [7] (fun i wr => ∃ (k : Nat) (x : World), k ≤ F.kids.length ∧ i = .int .i64 k ∧ wr = ext (w.alloc (.cells #[.int .i64 F.K, .int .i64 F.L.C, .slice aT F.L.T.length capT, .slice a F.kids.length cap] 31)) x ∧ Hid (∀ i, i < k → anyV (fun v => farB (valAt vals v)) (F.kids.getD i default) = false)) (fun i _ => F.kids.length - (intOf i).toNat)
      case atStart => exact ⟨0, _, by omega, rfl, rfl, Lib.hid (fun i hi => absurd hi (Nat.not_lt_zero _))⟩
      case round =>
        obtain ⟨k2, x2, hk2, rfl, rfl, hno⟩ := hrel
        by_cases hlt : k2 < F.kids.length
        · obtain ⟨bk, ok, cs, rfl, hbk, hF, hsz, hcell⟩ := Hc.out k2 hlt
          have hc0 := hcell 0 (by omega)
          have hc1 := hcell 1 (by omega)
          have hc2 := hcell 2 (by omega)
          have hc3 := hcell 3 (by omega)
          have Hm := Lib.hid (getD_of hlt)
          have Hhit := Lib.hid (anyV_kid (p := fun v => farB (valAt vals v)) hlt)
          have Hst := Lib.hid (fun hf => none_succ (p := fun i => anyV (fun v => farB (valAt vals v)) (F.kids.getD i default)) hno.out (k := k2) (by show anyV _ (F.kids.getD k2 default) = false; rw [getD_of hlt]; exact hf))
          have Hcall := Lib.hid (fun W (g : Below w.heap.size w W) => Hih.out F.kids[k2] cs _ vals W (hF.mono g) (Hvg.out W g) (NonNeg.kid Hnn.out hlt))
          generalize F.kids[k2] = Gk at *
          obtain ⟨a1, c1, a2, c2, rfl⟩ := form_cells hF
          simp only [Nat.add_zero, List.getElem_cons_zero, List.getElem_cons_succ] at hc0 hc1 hc2 hc3
          clear hcell
          generalize anyV (fun v => farB (valAt vals v)) Gk = t at *
          cases t
          · have Hn := Lib.hid (Hst.out rfl)
            go_wp2_with fail
            refine (Hcall.out _ (by repeat (first | exact grew_refl _ | (with_reducible assumption) | refine grew_alloc ?_ _ | refine grew_ext ?_ _ | refine grew_drew ?_ | refine grew_drewN ?_ _))).mono ?_
            rintro e w' ⟨rfl, y, rfl⟩
            go_wp2_with fail
            go_roundw
            case rel => exact ⟨k2 + 1, _, by omega, by go_num, (ext_of (by repeat (first | exact grew_refl _ | (with_reducible assumption) | refine grew_alloc ?_ _ | refine grew_ext ?_ _ | refine grew_drew ?_ | refine grew_drewN ?_ _))).symm, Hn⟩
            case measure => simp [intOf]; omega
          · have Hf := Lib.hid (Hhit.out rfl)
            go_wp2_with fail
            refine (Hcall.out _ (by repeat (first | exact grew_refl _ | (with_reducible assumption) | refine grew_alloc ?_ _ | refine grew_ext ?_ _ | refine grew_drew ?_ | refine grew_drewN ?_ _))).mono ?_
            rintro e w' ⟨rfl, y, rfl⟩
            go_wp2_with fail
            go_ret
            exact ⟨by rw [Hf.out]; rfl, ext_intro (by repeat (first | exact grew_refl _ | (with_reducible assumption) | refine grew_alloc ?_ _ | refine grew_ext ?_ _ | refine grew_drew ?_ | refine grew_drewN ?_ _))⟩
        · have Hf := Lib.hid (anyV_none (p := fun v => farB (valAt vals v)) HT.out (fun i hi => hno.out i (by omega)))
          clear hno
          go_wp2_with fail
          go_ret
          exact ⟨by rw [Hf.out]; rfl, ext_intro (by repeat (first | exact grew_refl _ | (with_reducible assumption) | refine grew_alloc ?_ _ | refine grew_ext ?_ _ | refine grew_drew ?_ | refine grew_drewN ?_ _))⟩
theorem rFar_any : ∀ n : Nat, FarSaid n
  | 0 => fun _ _ _ _ _ h => h.elim
  | n + 1 => far_step n (rFar_any n)
end Go.Proofs.Ytdieipdbkpcgmaa

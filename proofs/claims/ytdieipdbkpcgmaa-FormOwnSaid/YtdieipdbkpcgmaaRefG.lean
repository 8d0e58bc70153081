/- The document's answer for layer 2: whether a variable stands in a formula. -/
import Derived.Test.YtdieipdbkpcgmaaRefE
namespace Go.Proofs.Ytdieipdbkpcgmaa
set_option linter.unusedSimpArgs false
set_option linter.unusedVariables false
open Go.RowKit

def HasSaid (n : Nat) : Prop := ∀ (F : Form) (cs : List Value) (v : Int) (w : World), IsForm w n F cs →
  Calls Try.prog 15 #[.agg cs.toArray, .int .i64 v] w fun e w' => e = .returned (.bool (anyV (fun u => u == v) F)) ∧ ∃ x, w' = ext w x

set_option maxRecDepth 100000 in
set_option maxHeartbeats 4000000 in
theorem has_step (n : Nat) (ih : HasSaid n) : HasSaid (n + 1) := fun F cs v w h => by
  have Hih := Lib.hid ih
  obtain ⟨hK, vT, vK, rfl, ⟨hC, aT, capT, rfl, hlT, hcapT, hcT⟩, a, cap, rfl, hl, hcap, hc⟩ := h
  have Hc := Lib.hid hc
  have HcT := Lib.hid hcT
  clear hc hcT
  go_enter Try.func15, Try.ntmps15
  go_wp2_with fail
  go_loopw [5] (fun i wr => ∃ (k : Nat) (x : World), k ≤ F.L.T.length ∧ i = .int .i64 k ∧ wr = ext (w.alloc (.cells #[.int .i64 F.K, .int .i64 F.L.C, .slice aT F.L.T.length capT, .slice a F.kids.length cap] 31)) x ∧ Hid (∀ i, i < k → ((F.L.T.getD i default).V == v) = false)) (fun i _ => F.L.T.length - (intOf i).toNat)
  case atStart => exact ⟨0, _, by omega, rfl, (ext_of (grew_refl _)).symm, Lib.hid (fun i hi => absurd hi (Nat.not_lt_zero _))⟩
  case round =>
    obtain ⟨k, x, hk, rfl, rfl, hno⟩ := hrel
    by_cases hlt : k < F.L.T.length
    · obtain ⟨b, o, cs, rfl, hb, ⟨rfl, _, _⟩, _, hcell⟩ := HcT.out k hlt
      have hc0 := hcell 0 (by simp)
      simp only [Nat.add_zero, List.getElem_cons_zero] at hc0
      have Hhit := Lib.hid (anyV_T (p := fun u => u == v) hlt)
      have Hst := Lib.hid (fun hf => none_succ (p := fun i => (F.L.T.getD i default).V == v) hno.out (k := k) (by show ((F.L.T.getD k default).V == v) = false; rw [getD_of hlt]; exact hf))
      generalize F.L.T[k] = m at *
      clear hcell
      rcases Bool.eq_false_or_eq_true (m.V == v) with hf | hf
      · have Hf := Lib.hid (Hhit.out hf)
        go_wp2_with fail
        go_ret
        exact ⟨by rw [Hf.out]; rfl, ext_intro (by repeat (first | exact grew_refl _ | (with_reducible assumption) | refine grew_alloc ?_ _ | refine grew_ext ?_ _ | refine grew_drew ?_ | refine grew_drewN ?_ _))⟩
      · have Hn := Lib.hid (Hst.out hf)
        go_wp2_with fail
        go_roundw
        case rel => exact ⟨k + 1, _, by omega, by go_num, (ext_of (by repeat (first | exact grew_refl _ | (with_reducible assumption) | refine grew_alloc ?_ _ | refine grew_ext ?_ _ | refine grew_drew ?_ | refine grew_drewN ?_ _))).symm, Hn⟩
        case measure => simp [intOf]; omega
    · have HT := Lib.hid (fun i (hi : i < F.L.T.length) => hno.out i (by omega))
      clear hno
      go_wp2_with fail
      go_loopw [6] (fun i wr => ∃ (k : Nat) (x : World), k ≤ F.kids.length ∧ i = .int .i64 k ∧ wr = ext (w.alloc (.cells #[.int .i64 F.K, .int .i64 F.L.C, .slice aT F.L.T.length capT, .slice a F.kids.length cap] 31)) x ∧ Hid (∀ i, i < k → anyV (fun u => u == v) (F.kids.getD i default) = false)) (fun i _ => F.kids.length - (intOf i).toNat)
      case atStart => exact ⟨0, _, by omega, rfl, rfl, Lib.hid (fun i hi => absurd hi (Nat.not_lt_zero _))⟩
      case round =>
        obtain ⟨k2, x2, hk2, rfl, rfl, hno⟩ := hrel
        by_cases hlt : k2 < F.kids.length
        · obtain ⟨bk, ok, cs, rfl, hbk, hF, hsz, hcell⟩ := Hc.out k2 hlt
          have hc0 := hcell 0 (by omega)
          have hc1 := hcell 1 (by omega)
          have hc2 := hcell 2 (by omega)
          have hc3 := hcell 3 (by omega)
          have Hm := Lib.hid (getD_of hlt)
          have Hhit := Lib.hid (anyV_kid (p := fun u => u == v) hlt)
          have Hst := Lib.hid (fun hf => none_succ (p := fun i => anyV (fun u => u == v) (F.kids.getD i default)) hno.out (k := k2) (by show anyV _ (F.kids.getD k2 default) = false; rw [getD_of hlt]; exact hf))
          have Hcall := Lib.hid (fun W (g : Below w.heap.size w W) => Hih.out F.kids[k2] cs v W (hF.mono g))
          generalize F.kids[k2] = Gk at *
          obtain ⟨a1, c1, a2, c2, rfl⟩ := form_cells hF
          simp only [Nat.add_zero, List.getElem_cons_zero, List.getElem_cons_succ] at hc0 hc1 hc2 hc3
          clear hcell
          generalize anyV (fun u => u == v) Gk = t at *
          cases t
          · have Hn := Lib.hid (Hst.out rfl)
            go_wp2_with fail
            refine (Hcall.out _ (by repeat (first | exact grew_refl _ | (with_reducible assumption) | refine grew_alloc ?_ _ | refine grew_ext ?_ _ | refine grew_drew ?_ | refine grew_drewN ?_ _))).mono ?_
            rintro e w' ⟨rfl, y, rfl⟩
            go_wp2_with fail
            go_roundw
            case rel => exact ⟨k2 + 1, _, by omega, by go_num, (ext_of (by repeat (first | exact grew_refl _ | (with_reducible assumption) | refine grew_alloc ?_ _ | refine grew_ext ?_ _ | refine grew_drew ?_ | refine grew_drewN ?_ _))).symm, Hn⟩
            case measure => simp [intOf]; omega
          · have Hf := Lib.hid (Hhit.out rfl)
            go_wp2_with fail
            refine (Hcall.out _ (by repeat (first | exact grew_refl _ | (with_reducible assumption) | refine grew_alloc ?_ _ | refine grew_ext ?_ _ | refine grew_drew ?_ | refine grew_drewN ?_ _))).mono ?_
            rintro e w' ⟨rfl, y, rfl⟩
            go_wp2_with fail
            go_ret
            exact ⟨by rw [Hf.out]; rfl, ext_intro (by repeat (first | exact grew_refl _ | (with_reducible assumption) | refine grew_alloc ?_ _ | refine grew_ext ?_ _ | refine grew_drew ?_ | refine grew_drewN ?_ _))⟩
        · have Hf := Lib.hid (anyV_none (p := fun u => u == v) HT.out (fun i hi => hno.out i (by omega)))
          clear hno
          go_wp2_with fail
          go_ret
          exact ⟨by rw [Hf.out]; rfl, ext_intro (by repeat (first | exact grew_refl _ | (with_reducible assumption) | refine grew_alloc ?_ _ | refine grew_ext ?_ _ | refine grew_drew ?_ | refine grew_drewN ?_ _))⟩
theorem rHas_any : ∀ n : Nat, HasSaid n
  | 0 => fun _ _ _ _ h => h.elim
  | n + 1 => has_step n (rHas_any n)
end Go.Proofs.Ytdieipdbkpcgmaa

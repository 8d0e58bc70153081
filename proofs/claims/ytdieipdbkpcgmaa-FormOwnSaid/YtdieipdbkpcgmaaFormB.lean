/- Layer 2: depth. -/
import Derived.Test.YtdieipdbkpcgmaaForm
namespace Go.Proofs.Ytdieipdbkpcgmaa
set_option linter.unusedSimpArgs false
set_option linter.unusedVariables false
open Go.RowKit

/-! deep -/
def deepN : Nat → Form → Bool
  | 0, _ => true
  | b + 1, F => F.kids.any (deepN b)

def DeepSaid (b : Nat) : Prop := ∀ (z : Int) (n : Nat) (F : Form) (cs : List Value) (w : World), z = b → IsForm w n F cs →
  Calls Try.prog 24 #[.agg cs.toArray, .int .i64 z] w fun e w' => e = .returned (.bool (deepN b F)) ∧ ∃ x, w' = ext w x

theorem deep1_any {b : Nat} (hb : b ≤ 64) (ih : DeepSaid b) {n : Nat} {F : Form} {cs : List Value} {w : World} {bb : Nat} (z : Int) (hz : z = b + 1) (hc : w.cell? ⟨bb, 0, none⟩ = some (.int .i64 z)) (ho : Old w bb) (h : IsForm w n F cs) :
    Calls Try.prog 38 #[.agg cs.toArray, .pointer (some ⟨bb, 0, none⟩)] w fun e w' => e = .returned (.bool (deepN b F)) ∧ ∃ x, w' = ext w x := by
  have h' := h
  obtain ⟨_, rfl⟩ : ∃ m, n = m + 1 := by cases n with | zero => exact h.elim | succ n => exact ⟨n, rfl⟩
  obtain ⟨hK, vT, vK, rfl, hT, hk⟩ := h
  have hz1 : 0 < z := by omega
  have hz2 : z ≤ 65 := by omega
  have Hz := Lib.hid hz; clear hz
  go_enter Try.func38, Try.ntmps38
  go_wp2_with fail
  refine (ih _ _ F _ _ (by have := Hz.out; omega) (h'.mono (by repeat (first | exact grew_refl _ | (with_reducible assumption) | refine grew_alloc ?_ _ | refine grew_ext ?_ _ | refine grew_drew ?_ | refine grew_drewN ?_ _)))).mono ?_
  rintro e w' ⟨rfl, y, rfl⟩
  go_wp2_with fail
  go_ret
  exact ⟨rfl, ext_intro (by repeat (first | exact grew_refl _ | (with_reducible assumption) | refine grew_alloc ?_ _ | refine grew_ext ?_ _ | refine grew_drew ?_ | refine grew_drewN ?_ _))⟩

theorem deep1_call {a : Value} : ∀ (x : Value) (w : World), (callFunc 38 #[x, a]).run Try.prog w = .ok (.enter 38 #[x, a]) w := fun x w => by kernel_rfl

theorem deepKids_any {b : Nat} (hb : b ≤ 64) (ih : DeepSaid b) {m bb : Nat} {kids : List Form} {vK : Value} {W : World} (z : Int) (hz : z = b + 1) (hk : SliceOf W 4 (IsForm W m) vK kids)
    (hc : W.cell? ⟨bb, 0, none⟩ = some (.int .i64 z)) (ho : Old W bb) :
    Calls Try.prog 37 #[vK, .func (.func 38) #[] #[.pointer (some ⟨bb, 0, none⟩)]] W
      fun e w' => e = .returned (.bool (kids.any (deepN b))) ∧ ∃ x, w' = ext W x :=
  containsForm_any hk (fun x => #[x, .pointer (some ⟨bb, 0, none⟩)]) (fun x => by simp) deep1_call
    (fun x F cs hF h => deep1_any hb ih z hz ((cell_ext W x bb 0 ho).trans hc) (by simp [ho]) h)

theorem deep_any : ∀ b : Nat, b ≤ 64 → DeepSaid b
  | 0, _, z, n, F, cs, w, hz, h => by
    obtain ⟨_, rfl⟩ : ∃ m, n = m + 1 := by cases n with | zero => exact h.elim | succ n => exact ⟨n, rfl⟩
    obtain ⟨hK, vT, vK, rfl, hT, hk⟩ := h
    have hz1 : z < 1 := by omega
    clear hz
    go_enter Try.func24, Try.ntmps24
    go_wp2_with fail
    go_ret
    exact ⟨rfl, ext_intro (by repeat (first | exact grew_refl _ | (with_reducible assumption) | refine grew_alloc ?_ _ | refine grew_ext ?_ _ | refine grew_drew ?_ | refine grew_drewN ?_ _))⟩
  | b + 1, hb, z, n, F, cs, w, hz, h => by
    have ih := deep_any b (by omega)
    obtain ⟨m, rfl⟩ : ∃ m, n = m + 1 := by cases n with | zero => exact h.elim | succ n => exact ⟨n, rfl⟩
    obtain ⟨hK, vT, vK, rfl, hT, hk⟩ := h
    have hz1 : 1 ≤ z := by omega
    have hz2 : z ≤ 65 := by omega
    have Hz := Lib.hid hz; clear hz
    go_enter Try.func24, Try.ntmps24
    go_wp2_with fail
    refine (deepKids_any (by omega) ih z (by have := Hz.out; omega) (hk.mono (by repeat (first | exact grew_refl _ | (with_reducible assumption) | refine grew_alloc ?_ _ | refine grew_ext ?_ _ | refine grew_drew ?_ | refine grew_drewN ?_ _)) (fun _ _ _ h => h.mono (by repeat (first | exact grew_refl _ | (with_reducible assumption) | refine grew_alloc ?_ _ | refine grew_ext ?_ _ | refine grew_drew ?_ | refine grew_drewN ?_ _)))) (by go_simp) (by simp)).mono ?_
    rintro e w' ⟨rfl, y, rfl⟩
    go_wp2_with fail
    go_ret
    exact ⟨by show Ending.returned (.bool (decide (z < 1) || _)) = _; rw [decide_eq_false (by omega)]; rfl, ext_intro (by repeat (first | exact grew_refl _ | (with_reducible assumption) | refine grew_alloc ?_ _ | refine grew_ext ?_ _ | refine grew_drew ?_ | refine grew_drewN ?_ _))⟩

/-! size -/
mutual
def total : Form → Nat
  | ⟨_, _, ks⟩ => totals ks + 1
def totals : List Form → Nat
  | [] => 0
  | k :: ks => total k + totals ks
end
theorem totals_take_succ {ks : List Form} {k : Nat} (h : k < ks.length) : totals (ks.take (k + 1)) = totals (ks.take k) + total ks[k] := by
  induction ks generalizing k with
  | nil => simp at h
  | cons x ks ih =>
    cases k with
    | zero => simp [totals]
    | succ k => simp only [List.take_succ_cons, totals, List.getElem_cons_succ]; rw [ih (by simpa using h)]; omega
theorem totals_le {ks : List Form} (k : Nat) : totals (ks.take k) ≤ totals ks := by
  induction ks generalizing k with
  | nil => simp
  | cons x ks ih =>
    cases k with
    | zero => simp [totals]
    | succ k => simp only [List.take_succ_cons, totals]; have := ih k; omega
theorem total_eq (F : Form) : total F = totals F.kids + 1 := by cases F; rfl

/-- What formula.size answers: the number, where it is at most the bound; else something above the bound. -/
def SizeIs (F : Form) (b : Nat) (n : Int) : Prop := (n ≤ 4096 → n = total F) ∧ (4096 < n → 4096 < total F) ∧ 1 ≤ n ∧ n ≤ 4097 * b
def SizePart (F : Form) (b k : Nat) (z : Int) : Prop := (z ≤ 4096 → z = totals (F.kids.take k) + 1) ∧ (4096 < z → 4096 < totals (F.kids.take k) + 1) ∧ 1 ≤ z ∧ z ≤ 4096 + 4097 * b
theorem sizePart_zero (F : Form) (b : Nat) : SizePart F b 0 1 := by simp [SizePart, totals]; omega
theorem sizePart_succ {F : Form} {b k : Nat} {z : Int} (h : k < F.kids.length) (hz : z ≤ 4096) (hp : SizePart F b k z) : ∀ r, SizeIs F.kids[k] b r → SizePart F b (k + 1) (z + r) := by
  intro r hr
  obtain ⟨h1, h2, h3, h4⟩ := hp
  obtain ⟨g1, g2, g3, g4⟩ := hr
  have := totals_take_succ h
  simp only [SizePart, this]
  refine ⟨fun h => ?_, fun h => ?_, by omega, by omega⟩
  · have := h1 hz; have := g1 (by omega); omega
  · have := h1 hz
    by_cases hr : r ≤ 4096
    · have := g1 hr; omega
    · have := g2 (by omega); omega
theorem sizePart_end {F : Form} {b k : Nat} {z : Int} (h : ¬ k < F.kids.length) (hp : SizePart F b k z) : SizeIs F (b + 1) z := by
  obtain ⟨h1, h2, h3, h4⟩ := hp
  rw [List.take_of_length_le (by omega)] at h1 h2
  simp only [SizeIs, total_eq]
  refine ⟨fun h => by have := h1 h; omega, fun h => by have := h2 h; omega, h3, by omega⟩
theorem sizePart_big {F : Form} {b k : Nat} {z : Int} (h : k < F.kids.length) (hz : ¬ z ≤ 4096) (hp : SizePart F b k z) : SizeIs F (b + 1) z := by
  obtain ⟨h1, h2, h3, h4⟩ := hp
  have := totals_le (ks := F.kids) k
  simp only [SizeIs, total_eq]
  exact ⟨fun h => by omega, fun h => by have := h2 h; omega, h3, by omega⟩
theorem deep_kid {F : Form} {b k : Nat} (hd : deepN (b + 1) F = false) (h : k < F.kids.length) : deepN b F.kids[k] = false := by
  simp only [deepN, List.any_eq_false] at hd
  simpa using hd _ (List.getElem_mem h)
def SomeSize (F : Form) (b : Nat) (w : World) (e : Ending) (w' : World) : Prop := ∃ n : Int, e = .returned (.int .i64 n) ∧ SizeIs F b n ∧ ∃ x, w' = ext w x

theorem size_any : ∀ (b : Nat), b ≤ 64 → ∀ (n : Nat) (F : Form) (cs : List Value) (w : World), deepN b F = false → IsForm w n F cs →
    Calls Try.prog 25 #[.agg cs.toArray] w (SomeSize F b w)
  | 0, _, n, F, cs, w, hd, h => by simp [deepN] at hd
  | b + 1, hb, n, F, cs, w, hd, h => by
    have ih := Lib.hid (size_any b (by omega))
    have Hd := Lib.hid hd; clear hd
    obtain ⟨m, rfl⟩ : ∃ m, n = m + 1 := by cases n with | zero => exact h.elim | succ n => exact ⟨n, rfl⟩
    obtain ⟨hK, vT, vK, rfl, hT, a, cap, rfl, hl, hcap, hc⟩ := h
    go_enter Try.func25, Try.ntmps25
    go_wp2_with fail
    go_loopw [3, 4] (fun s i wr => ∃ (k : Nat) (z : Int) (x : World), k ≤ F.kids.length ∧ i = .int .i64 k ∧ s = .int .i64 z ∧ wr = ext (w.alloc (.cells #[.int .i64 F.K, .int .i64 F.L.C, vT, .slice a F.kids.length cap] 31)) x ∧ Hid (SizePart F b k z)) (fun _ i _ => F.kids.length - (intOf i).toNat)
    case atStart => exact ⟨0, 1, _, by omega, rfl, rfl, (ext_of (grew_refl _)).symm, Lib.hid (sizePart_zero F b)⟩
    case round =>
      obtain ⟨k, z, x, hk, rfl, rfl, rfl, hp⟩ := hrel
      have hz1 := hp.out.2.2.1
      have hz2 := hp.out.2.2.2
      by_cases hlt : k < F.kids.length
      · by_cases hz : z ≤ 4096
        · obtain ⟨bl, o, cs, rfl, hb, hF, hsz, hcell⟩ := hc k hlt
          have hc0 := hcell 0 (by omega)
          have hc1 := hcell 1 (by omega)
          have hc2 := hcell 2 (by omega)
          have hc3 := hcell 3 (by omega)
          have hkd : deepN b F.kids[k] = false := deep_kid Hd.out hlt
          have Hst := Lib.hid (sizePart_succ (F := F) (b := b) (z := z) hlt hz hp.out)
          have Hc := Lib.hid (fun W g => ih.out m F.kids[k] cs W hkd (hF.mono g))
          generalize F.kids[k] = G at *
          obtain ⟨u0, u1, u2, u3, rfl⟩ := len4 hsz
          simp only [Nat.add_zero, List.getElem_cons_zero, List.getElem_cons_succ] at hc0 hc1 hc2 hc3
          clear hcell hc hkd
          go_wp2_with fail
          refine (Hc.out _ (by repeat (first | exact grew_refl _ | (with_reducible assumption) | refine grew_alloc ?_ _ | refine grew_ext ?_ _ | refine grew_drew ?_ | refine grew_drewN ?_ _))).mono ?_
          rintro e w' ⟨r, rfl, hr, y, rfl⟩
          have hr1 := hr.2.2.1
          have hr2 := hr.2.2.2
          have Hr := Lib.hid (Hst.out r hr)
          clear hr
          go_wp2_with fail
          go_roundw
          case rel => exact ⟨k + 1, z + r, _, by omega, by go_num, rfl, (ext_of (by repeat (first | exact grew_refl _ | (with_reducible assumption) | refine grew_alloc ?_ _ | refine grew_ext ?_ _ | refine grew_drew ?_ | refine grew_drewN ?_ _))).symm, Hr⟩
          case measure => simp [intOf]; omega
        · go_wp2_with fail
          go_ret
          exact ⟨z, rfl, sizePart_big hlt (by omega) hp.out, ext_intro (by repeat (first | exact grew_refl _ | (with_reducible assumption) | refine grew_alloc ?_ _ | refine grew_ext ?_ _ | refine grew_drew ?_ | refine grew_drewN ?_ _))⟩
      · go_wp2_with fail
        all_goals go_ret
        all_goals exact ⟨z, rfl, sizePart_end hlt hp.out, ext_intro (by repeat (first | exact grew_refl _ | (with_reducible assumption) | refine grew_alloc ?_ _ | refine grew_ext ?_ _ | refine grew_drew ?_ | refine grew_drewN ?_ _))⟩
end Go.Proofs.Ytdieipdbkpcgmaa

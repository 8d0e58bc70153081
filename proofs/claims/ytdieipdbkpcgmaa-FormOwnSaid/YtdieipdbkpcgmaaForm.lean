/- Layer 2: formulas, what its functions answer, and their contracts. -/
import Derived.Test.YtdieipdbkpcgmaaLin
namespace Go.Proofs.Ytdieipdbkpcgmaa
set_option linter.unusedSimpArgs false
set_option linter.unusedVariables false
open Go.RowKit

structure Form where
  K : Int
  L : Lin
  kids : List Form
instance : Inhabited Form := ⟨⟨0, default, []⟩⟩

/-- A formula's four cells, read at most n deep. -/
def IsForm (w : World) : Nat → Form → List Value → Prop
  | 0, _, _ => False
  | n + 1, F, cs => I64 F.K ∧ ∃ vT vK, cs = [.int .i64 F.K, .int .i64 F.L.C, vT, vK] ∧ IsLin w F.L vT ∧ SliceOf w 4 (IsForm w n) vK F.kids

theorem IsForm.mono {w W : World} (hg : Below w.heap.size w W) : ∀ {n : Nat} {F : Form} {cs : List Value}, IsForm w n F cs → IsForm W n F cs
  | 0, _, _, h => h
  | n + 1, F, cs, ⟨h1, vT, vK, h2, h3, h4⟩ => ⟨h1, vT, vK, h2, h3.mono hg, h4.mono hg fun _ _ _ h => IsForm.mono hg h⟩

theorem form_cells {w : World} {n : Nat} {F : Form} {cs : List Value} (h : IsForm w n F cs) :
    ∃ a1 c1 a2 c2, cs = [.int .i64 F.K, .int .i64 F.L.C, .slice a1 F.L.T.length c1, .slice a2 F.kids.length c2] := by
  obtain ⟨_, rfl⟩ : ∃ m, n = m + 1 := by cases n with | zero => exact h.elim | succ n => exact ⟨n, rfl⟩
  obtain ⟨_, vT, vK, rfl, ⟨_, a, c, rfl, _⟩, a', c', rfl, _⟩ := h
  exact ⟨_, _, _, _, rfl⟩

theorem len2 {α : Type} {l : List α} (h : l.length = 2) : ∃ a b, l = [a, b] := by
  match l, h with
  | [a, b], _ => exact ⟨a, b, rfl⟩
theorem len4 {α : Type} {l : List α} (h : l.length = 4) : ∃ a b c d, l = [a, b, c, d] := by
  match l, h with
  | [a, b, c, d], _ => exact ⟨a, b, c, d, rfl⟩

def idx {α : Type} (p : α → Bool) : List α → Int
  | [] => -1
  | x :: l => if p x then 0 else if idx p l = -1 then -1 else idx p l + 1

theorem idx_first {α : Type} [Inhabited α] {p : α → Bool} : ∀ {l : List α} {k : Nat}, k < l.length → (∀ i, i < k → p (l.getD i default) = false) → p (l.getD k default) = true → idx p l = k
  | [], _, h, _, _ => by simp at h
  | x :: l, 0, _, _, h => by simp at h; simp [idx, h]
  | x :: l, k + 1, hk, h1, h2 => by
    have h0 := h1 0 (by omega)
    simp at h0
    have ih := idx_first (p := p) (l := l) (k := k) (by simpa using hk) (fun i hi => by have := h1 (i + 1) (by omega); simpa using this) (by simpa using h2)
    simp [idx, h0, ih] <;> omega
theorem idx_none {α : Type} [Inhabited α] {p : α → Bool} : ∀ {l : List α}, (∀ i, i < l.length → p (l.getD i default) = false) → idx p l = -1
  | [], _ => rfl
  | x :: l, h => by
    have h0 := h 0 (by simp)
    simp at h0
    have ih := idx_none (p := p) (l := l) (fun i hi => by have := h (i + 1) (by simpa using hi); simpa using this)
    simp [idx, h0, ih]
theorem idx_any {α : Type} (p : α → Bool) : ∀ (l : List α), decide (0 ≤ idx p l) = l.any p
  | [] => rfl
  | x :: l => by
    have ih := idx_any p l
    have lo : ∀ l : List α, -1 ≤ idx p l := fun l => by
      induction l with
      | nil => simp [idx]
      | cons y l ih => simp only [idx]; split <;> (try split) <;> omega
    have := lo l
    simp only [idx, List.any_cons, ← ih]
    by_cases h : p x
    · simp [h]
    · by_cases h2 : idx p l = -1
      · simp [h, h2]
      · simp [h, h2]; omega

theorem none_succ {p : Nat → Bool} {k : Nat} (h : ∀ i, i < k → p i = false) (hk : p k = false) : ∀ i, i < k + 1 → p i = false := by
  intro i hi
  rcases Nat.lt_succ_iff_lt_or_eq.1 hi with h' | rfl
  · exact h i h'
  · exact hk

set_option maxHeartbeats 1000000 in
theorem indexForm_any {n : Nat} {kids : List Form} {v : Value} {c : FuncId} {caps : Array Value} {p : Form → Bool} {w : World} (hs : SliceOf w 4 (IsForm w n) v kids)
    (A : Value → Array Value) (hA : ∀ x, #[x] ++ caps = A x) (hcall : ∀ x w, (callFunc c (A x)).run Try.prog w = .ok (.enter c (A x)) w)
    (hf : ∀ x F cs, F ∈ kids → IsForm (ext w x) n F cs → Calls Try.prog c (A (.agg cs.toArray)) (ext w x) fun e w' => e = .returned (.bool (p F)) ∧ ∃ y, w' = ext (ext w x) y) :
    Calls Try.prog 49 #[v, .func (.func c) #[] caps] w fun e w' => e = .returned (.int .i64 (idx p kids)) ∧ ∃ x, w' = ext w x := by
  obtain ⟨a, cap, rfl, hl, hcap, hc⟩ := hs
  go_enter Try.func49, Try.ntmps49
  go_wp2_with fail
  go_loopw [8] (fun i wr => ∃ (k : Nat) (x : World), k ≤ kids.length ∧ i = .int .i64 k ∧ wr = ext w x ∧ Hid (∀ i, i < k → p (kids.getD i default) = false)) (fun i _ => kids.length - (intOf i).toNat)
  case atStart => exact ⟨0, _, by omega, rfl, (ext_of (grew_refl _)).symm, Lib.hid (fun i hi => absurd hi (Nat.not_lt_zero _))⟩
  case round =>
    obtain ⟨k, x, hk, rfl, rfl, hno⟩ := hrel
    by_cases hlt : k < kids.length
    · obtain ⟨b, o, cs, rfl, hb, hF, hsz, hcell⟩ := hc k hlt
      have hc0 := hcell 0 (by omega)
      have hc1 := hcell 1 (by omega)
      have hc2 := hcell 2 (by omega)
      have hc3 := hcell 3 (by omega)
      have Hm := Lib.hid (getD_of hlt)
      have hFm := hf x kids[k] cs (List.getElem_mem hlt) (hF.mono (below_ext w x))
      generalize kids[k] = F at *
      obtain ⟨u0, u1, u2, u3, rfl⟩ := len4 hsz
      simp only [Nat.add_zero, List.getElem_cons_zero, List.getElem_cons_succ] at hc0 hc1 hc2 hc3
      have Hf := Lib.hid hFm
      clear hcell hc hf hFm
      rcases Bool.eq_false_or_eq_true (p F) with hp | hp
      · go_wp2_with fail
        refine (Hf.out).mono ?_
        rintro e w' ⟨rfl, y, rfl⟩
        go_wp2_with fail
        go_ret
        have := idx_first (p := p) hlt hno.out (by rw [Hm.out]; exact hp)
        exact ⟨by rw [this]; rfl, ext_intro (by repeat (first | exact grew_refl _ | (with_reducible assumption) | refine grew_alloc ?_ _ | refine grew_ext ?_ _ | refine grew_drew ?_ | refine grew_drewN ?_ _))⟩
      · go_wp2_with fail
        refine (Hf.out).mono ?_
        rintro e w' ⟨rfl, y, rfl⟩
        go_wp2_with fail
        go_roundw
        case rel => exact ⟨k + 1, _, by omega, by go_num, (ext_of (by repeat (first | exact grew_refl _ | (with_reducible assumption) | refine grew_alloc ?_ _ | refine grew_ext ?_ _ | refine grew_drew ?_ | refine grew_drewN ?_ _))).symm, Lib.hid (none_succ hno.out (by rw [Hm.out]; exact hp))⟩
        case measure => simp [intOf]; omega
    · go_wp2_with fail
      go_ret
      exact ⟨by rw [idx_none (p := p) (fun i hi => hno.out i (by omega))]; rfl, ext_intro (by repeat (first | exact grew_refl _ | (with_reducible assumption) | refine grew_alloc ?_ _ | refine grew_ext ?_ _ | refine grew_drew ?_ | refine grew_drewN ?_ _))⟩

theorem containsForm_any {n : Nat} {kids : List Form} {v : Value} {c : FuncId} {caps : Array Value} {p : Form → Bool} {w : World} (hs : SliceOf w 4 (IsForm w n) v kids)
    (A : Value → Array Value) (hA : ∀ x, #[x] ++ caps = A x) (hcall : ∀ x w, (callFunc c (A x)).run Try.prog w = .ok (.enter c (A x)) w)
    (hf : ∀ x F cs, F ∈ kids → IsForm (ext w x) n F cs → Calls Try.prog c (A (.agg cs.toArray)) (ext w x) fun e w' => e = .returned (.bool (p F)) ∧ ∃ y, w' = ext (ext w x) y) :
    Calls Try.prog 37 #[v, .func (.func c) #[] caps] w fun e w' => e = .returned (.bool (kids.any p)) ∧ ∃ x, w' = ext w x := by
  have Hi := Lib.hid (indexForm_any hs A hA hcall hf)
  have Ha := Lib.hid (idx_any p kids)
  clear hcall hf hA
  obtain ⟨a, cap, rfl, hl, hcap, hc⟩ := hs
  clear hc
  go_enter Try.func37, Try.ntmps37
  go_wp2_with fail
  refine (Hi.out).mono ?_
  rintro e w' ⟨rfl, y, rfl⟩
  go_wp2_with fail
  go_ret
  exact ⟨by rw [← Ha.out]; rfl, y, rfl⟩
end Go.Proofs.Ytdieipdbkpcgmaa

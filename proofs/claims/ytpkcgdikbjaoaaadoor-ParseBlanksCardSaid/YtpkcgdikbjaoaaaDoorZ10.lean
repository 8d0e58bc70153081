/- Letters, digits, numbers, names: scan's and the document's, in K. -/
import Derived.Test.YtpkcgdikbjaoaaaDoorZ9
namespace Go.Proofs.YtpkcgdikbjaoaaaDoor
set_option linter.unusedSimpArgs false
set_option linter.unusedVariables false
open Go.RowKit
def dn (c : UInt8) : Bool := decide (c.toNat = 95) || (decide (97 ≤ c.toNat) && decide (c.toNat ≤ 122)) || (decide (65 ≤ c.toNat) && decide (c.toNat ≤ 90))
def di (c : UInt8) : Bool := decide (48 ≤ c.toNat) && decide (c.toNat ≤ 57)
def lettersL : List UInt8 := [65, 66, 67, 68, 69, 70, 71, 72, 73, 74, 75, 76, 77, 78, 79, 80, 81, 82, 83, 84, 85, 86, 87, 88, 89, 90, 97, 98, 99, 100, 101, 102, 103, 104, 105, 106, 107, 108, 109, 110, 111, 112, 113, 114, 115, 116, 117, 118, 119, 120, 121, 122, 95]
def digitsL : List UInt8 := [48, 49, 50, 51, 52, 53, 54, 55, 56, 57]
def wordL : List UInt8 := lettersL ++ digitsL
theorem iP (c : UInt8) : lettersL.contains c = dn c := by
  have h : ∀ n : Fin 256, lettersL.contains (UInt8.ofNat n.val) = dn (UInt8.ofNat n.val) := by decide +kernel
  have := h ⟨c.toNat, c.toNat_lt⟩
  simpa using this
theorem nk (c : UInt8) : digitsL.contains c = di c := by
  have h : ∀ n : Fin 256, digitsL.contains (UInt8.ofNat n.val) = di (UInt8.ofNat n.val) := by decide +kernel
  have := h ⟨c.toNat, c.toNat_lt⟩
  simpa using this
theorem lE (c : UInt8) : wordL.contains c = (dn c || di c) := by
  rw [← iP, ← nk]
  unfold wordL
  simp
theorem nv : ∀ c ∈ lettersL, c.toNat < 128 := by decide +kernel
theorem qO : ∀ c ∈ digitsL, c.toNat < 128 := by decide +kernel
theorem pY : ∀ c ∈ wordL, c.toNat < 128 := by decide +kernel
def ni : List UInt8 → Nat
  | [] => 0
  | c :: r => if dn c then 1 + (r.takeWhile fun c => dn c || di c).length else 0
theorem among_pos {some r : List UInt8} : 0 < be some r ↔ ∃ c t, r = c :: t ∧ some.contains c = true := by
  unfold be
  cases r with
  | nil => simp
  | cons c t =>
    rw [List.takeWhile_cons]
    by_cases h : some.contains c = true
    · rw [if_pos h]; simp; exact List.contains_iff_mem.1 h
    · rw [if_neg h]; simp; exact fun e => h (List.contains_iff_mem.2 e)
theorem sa (r : List UInt8) : ni r = if 0 < be lettersL r then be wordL r else 0 := by
  cases r with
  | nil => simp [ni, be]
  | cons c t =>
    by_cases h : dn c = true
    · have h1 : 0 < be lettersL (c :: t) := among_pos.2 ⟨c, t, rfl, by rw [iP]; exact h⟩
      rw [if_pos h1]
      show (if dn c then 1 + (t.takeWhile fun c => dn c || di c).length else 0) = be wordL (c :: t)
      unfold be
      have e : (fun c => wordL.contains c) = fun c => dn c || di c := funext lE
      rw [if_pos h, e, List.takeWhile_cons, if_pos (by simp [h]), List.length_cons]; omega
    · have h1 : ¬ 0 < be lettersL (c :: t) := fun e => by
        obtain ⟨c', t', e1, e2⟩ := among_pos.1 e
        cases e1
        rw [iP] at e2; exact h e2
      rw [if_neg h1]
      show (if dn c then 1 + (t.takeWhile fun c => dn c || di c).length else 0) = 0
      rw [if_neg h]
theorem tz {r : List UInt8} {n : Nat} (hn : n ≤ r.length) (h : ∀ j (hj : j < r.length), j < n → (dn r[j] || (decide (0 < j) && di r[j])) = true) (he : ∀ hj : n < r.length, (dn r[n] || (decide (0 < n) && di r[n])) = false) : ni r = n := by
  cases r with
  | nil => simp at hn; subst hn; rfl
  | cons c t =>
    cases n with
    | zero =>
      have := he (by simp)
      simp at this
      simp [ni, this]
    | succ n =>
      have h0 := h 0 (by simp) (by omega)
      simp at h0
      show (if dn c then 1 + (t.takeWhile fun c => dn c || di c).length else 0) = n + 1
      rw [if_pos h0]
      have e1 : ∀ (t : List UInt8) (n : Nat), n ≤ t.length → (∀ j (hj : j < t.length), j < n → (dn t[j] || di t[j]) = true) → (∀ hj : n < t.length, (dn t[n] || di t[n]) = false) → (t.takeWhile fun c => dn c || di c).length = n := by
        intro t
        induction t with
        | nil => intro n hn _ _; simp at hn; subst hn; rfl
        | cons x t ih =>
          intro n hn hh hx
          cases n with
          | zero => have := hx (by simp); simp only [List.getElem_cons_zero] at this; rw [List.takeWhile_cons, if_neg (by rw [this]; simp)]; rfl
          | succ n =>
            have := hh 0 (by simp) (by omega)
            simp only [List.getElem_cons_zero] at this
            rw [List.takeWhile_cons, if_pos this, List.length_cons, ih n (by simpa using hn) (fun j hj hjn => hh (j + 1) (Nat.succ_lt_succ hj) (by omega)) (fun hj => hx (Nat.succ_lt_succ hj))]
      rw [e1 t n (by simpa using hn) (fun j hj hjn => by simpa using h (j + 1) (Nat.succ_lt_succ hj) (by omega)) (fun hj => by simpa using he (Nat.succ_lt_succ hj))]
      omega
abbrev byA (c : UInt8) : AV := .c (.int .u8 (c.toNat : Int))
def ir : Nat → List Nat
  | 0 => [0]
  | 1 => [0]
  | _ => []
def iw : Nat → List Nat
  | 0 => [0]
  | 1 => [0]
  | _ => []
theorem t5 {l : List UInt8} {i : Nat} (h : i < l.length) : l.getD i 0 = l[i] := by
  rw [List.getD_eq_getElem?_getD, List.getElem?_eq_getElem h]; rfl
def iE : Nat → List Nat
  | 0 => [0, 1]
  | 1 => [0, 1]
  | 2 => [0, 1, 5]
  | 3 => [0, 1, 5]
  | 4 => [5]
  | _ => []
end Go.Proofs.YtpkcgdikbjaoaaaDoor

/- Lists laid side by side. No program is in sight. -/
import Derived.Test.YtjabaenpkimmjaaKW
namespace Go.Proofs.Ytjabaenpkimmjaa
set_option linter.unusedSimpArgs false
set_option linter.unusedVariables false
open Go.RowKit
theorem take_fm {α β : Type} {f : α → List β} {l : List α} {k : Nat} (h : k < l.length) : (l.take (k + 1)).flatMap f = (l.take k).flatMap f ++ f l[k] := by
  rw [List.take_succ_eq_append_getElem h, List.flatMap_append]; simp
theorem fm_le {α β : Type} {f : α → List β} {l : List α} {k : Nat} (h : k < l.length) : ((l.take k).flatMap f).length + (f l[k]).length ≤ (l.flatMap f).length := by
  have e : l.flatMap f = (l.take (k + 1)).flatMap f ++ (l.drop (k + 1)).flatMap f := by rw [← List.flatMap_append, List.take_append_drop]
  rw [e, take_fm h]; simp only [List.length_append]; omega
theorem fm_len {α : Type} {f : α → List AV} {k : Nat} (hf : ∀ x, (f x).length = k) : ∀ l : List α, (l.flatMap f).length = l.length * k
  | [] => by simp
  | x :: l => by rw [List.flatMap_cons, List.length_append, hf, fm_len hf l, List.length_cons, Nat.succ_mul]; omega
theorem fm_at {α : Type} {f : α → List AV} {k : Nat} (hf : ∀ x, (f x).length = k) : ∀ {l : List α} {i : Nat} (h : i < l.length), ((l.flatMap f).drop (i * k)).take k = f l[i]
  | x :: l, 0, _ => by
    rw [Nat.zero_mul, List.drop_zero, List.flatMap_cons, List.take_append_of_le_length (by rw [hf]; exact Nat.le_refl _), List.take_of_length_le (by rw [hf]; exact Nat.le_refl _)]; rfl
  | x :: l, i + 1, h => by
    have := fm_at hf (l := l) (i := i) (by simpa using h)
    rw [List.flatMap_cons, List.drop_append]
    have e : (i + 1) * k - (f x).length = i * k := by rw [hf, Nat.succ_mul]; omega
    rw [e, List.drop_of_length_le (by rw [hf, Nat.succ_mul]; omega), List.nil_append, this]; rfl
theorem fm_get {α : Type} {f : α → List AV} {k : Nat} (hf : ∀ x, (f x).length = k) {l : List α} {i : Nat} (h : i < l.length) (j : Nat) (hj : j < k) : (l.flatMap f).getD (i * k + j) .u = (f l[i]).getD j .u := by
  have e := congrArg (fun x => x.getD j .u) (fm_at hf h)
  simp only [List.getD_eq_getElem?_getD] at e ⊢
  rw [← e, List.getElem?_take, if_pos hj, List.getElem?_drop]
theorem fm_get0 {α : Type} {f : α → List AV} {k : Nat} (hf : ∀ x, (f x).length = k) {l : List α} {i : Nat} (h : i < l.length) (hj : 0 < k) : (l.flatMap f).getD (i * k) .u = (f l[i]).getD 0 .u := fm_get hf h 0 hj
theorem map_at {α : Type} {f : α → AV} {l : List α} {i : Nat} (h : i < l.length) : (l.map f).getD i .u = f l[i] := by
  rw [List.getD_eq_getElem?_getD, List.getElem?_map, List.getElem?_eq_getElem h]; rfl
theorem fm_sub {α : Type} {f : α → List AV} {k : Nat} (hf : ∀ x, (f x).length = k) {l : List α} {i : Nat} (h : i < l.length) (j n : Nat) (hj : j + n ≤ k) : ((l.flatMap f).drop (i * k + j)).take n = ((f l[i]).drop j).take n := by
  rw [← fm_at hf h, List.drop_take, List.take_take, List.drop_drop, Nat.min_eq_left (by omega)]
theorem fm_one {α : Type} (f : α → AV) : ∀ l : List α, l.map f = l.flatMap fun z => [f z]
  | [] => rfl
  | x :: l => by rw [List.map_cons, List.flatMap_cons, ← fm_one f l]; rfl
end Go.Proofs.Ytjabaenpkimmjaa

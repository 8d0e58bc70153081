/- Lists laid side by side. No program is in sight. -/
import Derived.Test.YtiiaokjgbjhfhaaGreatDoorZ10
namespace Go.Proofs.YtiiaokjgbjhfhaaGreatDoor
set_option linter.unusedSimpArgs false
set_option linter.unusedVariables false
open Go.RowKit
theorem kX {α : Type} {f : α → List AV} {k : Nat} (hf : ∀ x,(f x).length = k) : ∀ l : List α,(l.flatMap f).length = l.length * k
 | [] => by simp
 | x :: l => by rw [List.flatMap_cons,List.length_append,hf,kX hf l,List.length_cons,Nat.succ_mul];omega
theorem lP {α : Type} {f : α → List AV} {k : Nat} (hf : ∀ x,(f x).length = k) : ∀ {l : List α} {i : Nat} (h : i < l.length),((l.flatMap f).drop (i * k)).take k = f l[i]
 | x :: l,0,_ => by
  rw [Nat.zero_mul,List.drop_zero,List.flatMap_cons,List.take_append_of_le_length (by rw [hf];exact Nat.le_refl _),List.take_of_length_le (by rw [hf];exact Nat.le_refl _)];rfl
 | x :: l,i + 1,h => by
  have := lP hf (l := l) (i := i) (by simpa using h)
  rw [List.flatMap_cons,List.drop_append]
  have e : (i + 1) * k - (f x).length = i * k := by rw [hf,Nat.succ_mul];omega
  rw [e,List.drop_of_length_le (by rw [hf,Nat.succ_mul];omega),List.nil_append,this];rfl
theorem ng {α : Type} {f : α → List AV} {k : Nat} (hf : ∀ x,(f x).length = k) {l : List α} {i : Nat} (h : i < l.length) (j : Nat) (hj : j < k) : (l.flatMap f).getD (i * k + j) .u = (f l[i]).getD j .u := by
 have e := congrArg (fun x => x.getD j .u) (lP hf h)
 simp only [List.getD_eq_getElem?_getD] at e ⊢
 rw [← e,List.getElem?_take,if_pos hj,List.getElem?_drop]
theorem ol {α : Type} {f : α → List AV} {k : Nat} (hf : ∀ x,(f x).length = k) {l : List α} {i : Nat} (h : i < l.length) (hj : 0 < k) : (l.flatMap f).getD (i * k) .u = (f l[i]).getD 0 .u := ng hf h 0 hj
theorem qn {α : Type} {f : α → AV} {l : List α} {i : Nat} (h : i < l.length) : (l.map f).getD i .u = f l[i] := by
 rw [List.getD_eq_getElem?_getD,List.getElem?_map,List.getElem?_eq_getElem h];rfl
theorem kY {α : Type} (f : α → AV) : ∀ l : List α,l.map f = l.flatMap fun z => [f z]
 | [] => rfl
 | x :: l => by rw [List.map_cons,List.flatMap_cons,← kY f l];rfl
end Go.Proofs.YtiiaokjgbjhfhaaGreatDoor

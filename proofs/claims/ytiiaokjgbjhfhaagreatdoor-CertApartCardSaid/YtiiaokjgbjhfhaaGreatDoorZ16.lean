/- What a lemma's opposites say: plain. No program is in sight. -/
import Derived.Test.YtiiaokjgbjhfhaaGreatDoorZ0
import Derived.Test.YtiiaokjgbjhfhaaGreatDoorZ15
namespace Go.Proofs.YtiiaokjgbjhfhaaGreatDoor
set_option linter.unusedSimpArgs false
set_option linter.unusedVariables false
def f9 (n : Nat) (z : Int) : Bool := decide (z = 0) || decide ((n : Int) < z) || decide (z < -(n : Int))
def eJ (ls : List Ln) (z : Int) : Ln := ls.getD (if z < 0 then (-z - 1).toNat else (z - 1).toNat) ⟨0,[]⟩
def dk (ls : List Ln) (z : Int) : Nat × Ln :=
 if z < 0 then (0,eJ ls z) else if cM (1 - (eJ ls z).c) then (0,⟨1 - (eJ ls z).c,cm (-1) (eJ ls z).t⟩) else (3,⟨0,[]⟩)
def dG (ls : List Ln) : List Int → List Ln → Nat × List Ln
 | [],out => (0,out)
 | z :: r,out => if (dk ls z).1 = 0 then dG ls r (out ++ [(dk ls z).2]) else ((dk ls z).1,[])
def dX (ls : List Ln) (zs : List Int) : Nat × List Ln :=
 if ls.any (fun l => !dd l) then (5,[]) else if zs.any (f9 ls.length) then (5,[]) else dG ls zs []
theorem gt {n : Nat} {z : Int} (h : f9 n z = false) : z ≠ 0 ∧ z ≤ n ∧ -(n : Int) ≤ z := by
 unfold f9 at h
 simp only [Bool.or_eq_false_iff,decide_eq_false_iff_not] at h
 omega
theorem g9 {ls : List Ln} {z : Int} (h : f9 ls.length z = false) : ∃ i,∃ hi : i < ls.length,eJ ls z = ls[i] ∧ (i : Int) = (if z < 0 then -z - 1 else z - 1) := by
 obtain ⟨h1,h2,h3⟩ := gt h
 unfold eJ
 by_cases hz : z < 0
 ·rw [if_pos hz,if_pos hz]
  refine ⟨(-z - 1).toNat,by omega,?_,by omega⟩
  rw [List.getD_eq_getElem?_getD,List.getElem?_eq_getElem (by omega)];rfl
 ·rw [if_neg hz,if_neg hz]
  refine ⟨(z - 1).toNat,by omega,?_,by omega⟩
  rw [List.getD_eq_getElem?_getD,List.getElem?_eq_getElem (by omega)];rfl
theorem qt (ls : List Ln) (z : Int) : (dk ls z).1 = 0 ∨ (dk ls z).1 = 3 := by
 unfold dk
 split
 ·exact .inl rfl
 ·split
  ·exact .inl rfl
  ·exact .inr rfl
theorem jl (ls : List Ln) : ∀ (zs : List Int) (out : List Ln),(dG ls zs out).1 = 0 → (dG ls zs out).2 = out ++ zs.map (fun z => (dk ls z).2)
 | [],out,_ => by simp [dG]
 | z :: r,out,h => by
  unfold dG at h ⊢
  split at h
  ·rename_i h1
   rw [if_pos h1,jl ls r _ h]
   simp
  ·rename_i h1
   exact absurd h h1
theorem kv {ls : List Ln} {zs : List Int} (h : (dX ls zs).1 = 0) : (∀ l ∈ ls,dd l = true) ∧ (∀ z ∈ zs,f9 ls.length z = false) ∧ (dX ls zs).2 = zs.map (fun z => (dk ls z).2) := by
 unfold dX at h ⊢
 split at h
 ·cases h
 rename_i h1
 split at h
 ·cases h
 rename_i h2
 rw [if_neg h1,if_neg h2,jl ls zs [] h,List.nil_append]
 simp only [List.any_eq_true,not_exists,not_and,Bool.not_eq_true,Bool.not_eq_false'] at h1 h2
 exact ⟨h1,h2,rfl⟩
theorem iO : ∀ (last : Int) (t : List Tm),cC last t = true → cC last (cm (-1) t) = true
 | _,[],h => h
 | last,m :: r,h => by
  have e : cm (-1) (m :: r) = (m.1,-1 * m.2) :: cm (-1) r := rfl
  rw [e]
  unfold cC at h ⊢
  rw [Bool.and_eq_true] at h ⊢
  refine ⟨?_,iO _ r h.2⟩
  have h1 := h.1
  unfold fQ f6 cM at h1 ⊢
  simp at h1 ⊢
  omega
theorem nI {ls : List Ln} {z : Int} (h : (dk ls z).1 = 0) (u : Int → Int) :
  kI u (dk ls z).2 = if z < 0 then kI u (eJ ls z) else 1 - kI u (eJ ls z) := by
 unfold dk at h ⊢
 split
 ·rfl
 ·rename_i h1
  rw [if_neg h1] at h
  split
  ·unfold kI
   simp only [iU]
   omega
  ·rename_i h2
   rw [if_neg h2] at h;cases h
theorem mW {ls : List Ln} {z : Int} (h : (dk ls z).1 = 0) (hz : z ≠ 0) (vs : List Int) (ha : (dw (eJ ls z) vs).2 = 0) (hb : (dw (dk ls z).2 vs).2 = 0) :
  (decide ((dw (eJ ls z) vs).1 ≤ 0) == decide (0 < z)) = !decide ((dw (dk ls z).2 vs).1 ≤ 0) := by
 have e : ∀ l,(dw l vs).2 = 0 → (dw l vs).1 = kI (ofN vs) l := fun l hl => by
  unfold dw at hl ⊢
  split at hl
  ·cases hl
  ·rename_i h1
   rw [if_neg h1]
   split at hl
   ·cases hl
   ·rename_i h2
    rw [if_neg h2]
 rw [e _ ha,e _ hb,nI h]
 generalize kI (ofN vs) (eJ ls z) = A
 by_cases hz : z < 0
 ·rw [if_pos hz,decide_eq_false (show ¬ 0 < z by omega)]
  cases decide (A ≤ 0) <;> rfl
 ·rw [if_neg hz,decide_eq_true (show 0 < z by omega)]
  by_cases hA : A ≤ 0
  ·rw [decide_eq_true hA,decide_eq_false (show ¬ 1 - A ≤ 0 by omega)];rfl
  ·rw [decide_eq_false hA,decide_eq_true (show 1 - A ≤ 0 by omega)];rfl
end Go.Proofs.YtiiaokjgbjhfhaaGreatDoor

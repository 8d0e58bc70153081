/- The first element of a kind in a list: plain. -/
import Derived.Test.YtiiaokjgbjhfhaaGreatDoorZ13
namespace Go.Proofs.YtiiaokjgbjhfhaaGreatDoor
set_option linter.unusedSimpArgs false
set_option linter.unusedVariables false
def fiP {α : Type} (p : α → Bool) (l : List α) : Int := if l.any p then ((l.findIdx p : Nat) : Int) else -1
theorem lN {α : Type} {p : α → Bool} {l : List α} {k : Nat} (hk : k < l.length) (h : ∀ j (hj : j < l.length),j < k → p l[j] = false) (hp : p l[k] = true) : fiP p l = (k : Int) := by
 have h1 : l.any p = true := List.any_eq_true.2 ⟨l[k],List.getElem_mem hk,hp⟩
 unfold fiP
 rw [if_pos h1,(List.findIdx_eq hk).2 ⟨hp,fun j hj => h j (by omega) hj⟩]
theorem lO {α : Type} {p : α → Bool} {l : List α} (h : ∀ j (hj : j < l.length),p l[j] = false) : fiP p l = -1 := by
 have h1 : ¬ l.any p = true := fun e => by
  obtain ⟨x,hx,hp⟩ := List.any_eq_true.1 e
  obtain ⟨j,hj,rfl⟩ := List.getElem_of_mem hx
  rw [h j hj] at hp;cases hp
 unfold fiP;rw [if_neg h1]
theorem nf {α : Type} (p : α → Bool) (l : List α) : (0 ≤ fiP p l) = (l.any p = true) := by
 unfold fiP
 split
 ·rename_i h;exact propext ⟨fun _ => h,fun _ => by omega⟩
 ·rename_i h;exact propext ⟨fun h1 => absurd h1 (by omega),fun h1 => absurd h1 h⟩
theorem jC {α : Type} (p : α → Bool) (l : List α) : decide (0 ≤ fiP p l) = l.any p := by
 cases h : l.any p with
 | true => exact decide_eq_true (by rw [nf];exact h)
 | false => exact decide_eq_false (by rw [nf,h];simp)
end Go.Proofs.YtiiaokjgbjhfhaaGreatDoor

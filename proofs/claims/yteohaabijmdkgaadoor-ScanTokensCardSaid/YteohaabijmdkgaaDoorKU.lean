/- K: a loop cut from what comes behind it. No program is in sight. -/
import Derived.Test.YteohaabijmdkgaaDoorKS
namespace Go.Proofs.YteohaabijmdkgaaDoor
set_option linter.unusedSimpArgs false
set_option linter.unusedVariables false
open Go.RowKit
theorem aw_mono {E : Env} {Q Q' : Exit → AMap → Prop} {σ : AMap} {c : Code} (hq : ∀ e s, Q' e s → Q e s) (h : aw E c Q' σ) : aw E c Q σ := fun a w G hs =>
  Code.wp_mono (fun e a' w' ⟨σ', G', h1, h2⟩ => ⟨σ', G', hq _ _ h1, h2⟩) (h a w G hs)
theorem awl_mono {E : Env} {Q Q' : Exit → AMap → Prop} {σ : AMap} {c : Code} (hq : ∀ e s, Q' e s → Q e s) (h : awl E c Q' σ) : awl E c Q σ := fun a w G hs b k cs => by
  obtain ⟨e, a', w', ⟨σ', G', h1, h2⟩, harr⟩ := h a w G hs b k cs
  exact ⟨e, a', w', ⟨σ', G', hq _ _ h1, h2⟩, harr⟩
/-- Left by exit i with R; or as Q says. -/
def cutE (i : Nat) (R : AMap → Prop) (Q : Exit → AMap → Prop) : Exit → AMap → Prop
  | .exit j, s => if j = i then R s else Q (.exit j) s
  | e, s => Q e s
/-- Behind a loop: from any state that R tells. -/
theorem awl_cut {E : Env} {Q : Exit → AMap → Prop} {σ : AMap} {c : Code} (i : Nat) (R : AMap → Prop) (h : ∀ s, R s → Q (.exit i) s) (hl : awl E c (cutE i R Q) σ) : awl E c Q σ := by
  refine awl_mono (fun e s => ?_) hl
  cases e with
  | exit j =>
    simp only [cutE]
    split
    · rename_i e; subst e; exact h s
    · exact id
  | _ => exact id
theorem cut_i {i : Nat} {R : AMap → Prop} {Q : Exit → AMap → Prop} {s : AMap} (h : R s) : cutE i R Q (.exit i) s := by simp only [cutE, if_true]; exact h
theorem cut_r {i : Nat} {R : AMap → Prop} {Q : Exit → AMap → Prop} {s : AMap} (h : Q .ret s) : cutE i R Q .ret s := h
theorem cut_o {i j : Nat} {R : AMap → Prop} {Q : Exit → AMap → Prop} {s : AMap} (hj : ¬ j = i) (h : Q (.exit j) s) : cutE i R Q (.exit j) s := by simp only [cutE, if_neg hj]; exact h
theorem ale_refl {E : Env} {σ : AMap} : ALe E σ σ := fun a w G hs => ⟨G, hs⟩
end Go.Proofs.YteohaabijmdkgaaDoor

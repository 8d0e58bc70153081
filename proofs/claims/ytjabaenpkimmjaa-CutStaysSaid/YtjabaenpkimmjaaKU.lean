/- K: a loop cut from what comes behind it. No program is in sight. -/
import Derived.Test.YtjabaenpkimmjaaKS
namespace Go.Proofs.Ytjabaenpkimmjaa
set_option linter.unusedSimpArgs false
set_option linter.unusedVariables false
open Go.RowKit
theorem aw_mono {E : Env} {Q Q' : Exit → AMap → Prop} {σ : AMap} {c : Code} (hq : ∀ e s, Q' e s → Q e s) (h : aw E c Q' σ) : aw E c Q σ := fun a w G hs =>
  Code.wp_mono (fun e a' w' ⟨σ', G', h1, h2⟩ => ⟨σ', G', hq _ _ h1, h2⟩) (h a w G hs)
theorem awl_mono {E : Env} {Q Q' : Exit → AMap → Prop} {σ : AMap} {c : Code} (hq : ∀ e s, Q' e s → Q e s) (h : awl E c Q' σ) : awl E c Q σ := fun a w G hs b k cs => by
  obtain ⟨e, a', w', ⟨σ', G', h1, h2⟩, harr⟩ := h a w G hs b k cs
  exact ⟨e, a', w', ⟨σ', G', hq _ _ h1, h2⟩, harr⟩
/-- Left by exit i with R; or as Q says. -/
def cutE (i : Nat) (R : AMap → Prop) (Q : Exit → AMap → Prop) : Exit → AMap → Prop
  | .exit j, s => if j = i then R s else Q (.exit j) s
  | e, s => Q e s
/-- Behind a loop: from any state that R tells. -/
theorem awl_cut {E : Env} {Q : Exit → AMap → Prop} {σ : AMap} {c : Code} (i : Nat) (R : AMap → Prop) (h : ∀ s, R s → Q (.exit i) s) (hl : awl E c (cutE i R Q) σ) : awl E c Q σ := by
  refine awl_mono (fun e s => ?_) hl
  cases e with
  | exit j =>
    simp only [cutE]
    split
    · rename_i e; subst e; exact h s
    · exact id
  | _ => exact id
theorem cut_i {i : Nat} {R : AMap → Prop} {Q : Exit → AMap → Prop} {s : AMap} (h : R s) : cutE i R Q (.exit i) s := by simp only [cutE, if_true]; exact h
theorem cut_r {i : Nat} {R : AMap → Prop} {Q : Exit → AMap → Prop} {s : AMap} (h : Q .ret s) : cutE i R Q .ret s := h
theorem cut_o {i j : Nat} {R : AMap → Prop} {Q : Exit → AMap → Prop} {s : AMap} (hj : ¬ j = i) (h : Q (.exit j) s) : cutE i R Q (.exit j) s := by simp only [cutE, if_neg hj]; exact h
theorem ale_refl {E : Env} {σ : AMap} : ALe E σ σ := fun a w G hs => ⟨G, hs⟩
/-- Many ways lead to one place: it is proved once. -/
theorem awl_hub {α : Type} (S : α → AMap) (P : α → Prop) {E : Env} {c : Code} {Q : Exit → AMap → Prop} {G : Prop} (use : (∀ a, P a → awl E c Q (S a)) → G) (key : ∀ a, P a → awl E c Q (S a)) : G := use key
theorem aw_hub {α : Type} (S : α → AMap) (P : α → Prop) {E : Env} {c : Code} {Q : Exit → AMap → Prop} {G : Prop} (use : (∀ a, P a → aw E c Q (S a)) → G) (key : ∀ a, P a → aw E c Q (S a)) : G := use key
/-- Does a code begin with that region? -/
def begins (n : Nat) : Code → Bool
  | .region id _ _ => id == n
  | .seq a _ => begins n a
  | _ => false
/-- On, but not into that region. -/
theorem aw_seqS (n : Nat) {E : Env} {Q : Exit → AMap → Prop} {σ : AMap} {x y : Code} (_ : begins n x = false) (h : aw E x (thenA (aw E y Q) Q) σ) : aw E (.seq x y) Q σ := aw_seq h
theorem aw_regionBS (n : Nat) {E : Env} {Q : Exit → AMap → Prop} {σ : AMap} (tk : FuncId → Bool) (LV : Nat → List Nat) {id : Nat} {l : List Oper} (_ : (id == n) = false) (h : EqTo (mclean (LV id) σ) (RegN E Q tk l)) : aw E (.region id l.toArray false) Q σ := aw_regionB tk LV h
theorem aw_drawBS (n : Nat) {E : Env} {Q : Exit → AMap → Prop} {σ : AMap} (tk : FuncId → Bool) (LV : Nat → List Nat) {id : Nat} {l : List Oper} (_ : (id == n) = false) (hm : E.P.follows .mixedOrders = true) (h : EqTo (mclean (LV id) σ) (RegD E Q tk l)) : aw E (.region id l.toArray true) Q σ := aw_drawB tk LV hm h
theorem aw_cleanH {E : Env} {Q : Exit → AMap → Prop} {σ σ' : AMap} {c : Code} {L : List Nat} (hσ : mclean L σ = σ') (h : aw E c Q σ') : aw E c Q σ := aw_le (ale_clean L σ) (hσ ▸ h)
end Go.Proofs.Ytjabaenpkimmjaa

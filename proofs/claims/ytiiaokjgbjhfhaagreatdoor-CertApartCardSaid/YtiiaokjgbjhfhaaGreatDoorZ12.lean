/- Errors as the document tells them: their trees; contracts from the world. -/
import Derived.Test.YtiiaokjgbjhfhaaGreatDoorZ10
namespace Go.Proofs.YtiiaokjgbjhfhaaGreatDoor
set_option linter.unusedSimpArgs false
set_option linter.unusedVariables false
open Go.RowKit
theorem mi {P : Program} {f : FuncId} {args : List AV} {x : Value}
  (h : ∀ (w : World) (G : Gh) (vs : Array Value),(∀ b o v,G.Z b o = some v → w.cell? ⟨b,o,none⟩ = some v ∧ v.oneCell' = true) → Gl G.Z → vs.size = args.length → (∀ j (h : j < args.length),VRel G (bZ []) (vs.getD j undef) args[j]) →
   Calls P f vs w fun e w' => e = .returned x ∧ Below w.heap.size w w') : AFn P f args [] (.c x) [] := fun w G vs hst hX hvs hargs => by
 have hu : ∀ k,bZ [] k = .u := fun k => by
  have e : ∀ k,cJ [] k = .u := fun k => dP fun h => by have h1 := h.1;have h2 := h.2;simp only [List.length_nil] at h2;omega
  show lk (cJ []) k = .u
  unfold lk
  rw [e,e]
  split
  ·rfl
  ·split <;> rfl
 have hγ : ∀ k,G.γ k = none := fun k => by
  cases hg : G.γ k with
  | none => rfl
  | some g =>
   exact ((hst.box k g hg).2.2.not_u (hu k)).elim
 refine (h w G vs hst.agree hst.gl hvs hargs).mono fun e w' ⟨he,hb⟩ => ⟨x,G,he,.p (.c x),⟨fun b o v hz => ?_,fun k g hk => ?_,fun k cs ty _ hc => ?_,fun k k' g hk => ?_,hst.gl⟩,⟨hb.os,hb.tape,hb.output,hb.size,fun b hp _ => hb.block b hp.1⟩,.refl _ _,fun _ _ _ _ => rfl⟩
 ·have := hst.agree b o v hz
  exact ⟨(hb.cell (p := ⟨b,o,none⟩) (World.block_lt_of_cell? w ⟨b,o,none⟩ this.1)).trans this.1,this.2⟩
 ·rw [hγ] at hk;cases hk
 ·rw [hu] at hc;cases hc
 ·rw [hγ] at hk;cases hk
def iM (at0 : Int) (e : Nat) : AV := .ifc 73 (.rf [.c (.int .i64 at0),cS e] 0)
end Go.Proofs.YtiiaokjgbjhfhaaGreatDoor

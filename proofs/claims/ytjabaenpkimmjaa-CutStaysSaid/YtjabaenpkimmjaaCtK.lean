/- Cut in K: maps of ints as cells; functions that leave all as it was, with boxes handed in. -/
import Derived.Test.YtjabaenpkimmjaaCtM
import Derived.Test.YtjabaenpkimmjaaKP
namespace Go.Proofs.Ytjabaenpkimmjaa
set_option linter.unusedSimpArgs false
set_option linter.unusedVariables false
open Go.RowKit
abbrev inA (n : Int) : AV := .c (.int .i64 n)
/-- A map from int to int, as a box's cells. -/
def cellsM : List Tm → List AV
  | [] => []
  | m :: r => inA m.1 :: inA m.2 :: cellsM r
theorem keysOk_M : ∀ M : List Tm, keysOk .i64 (cellsM M) = true
  | [] => rfl
  | m :: r => by rw [cellsM, keysOk, keysOk_M r]; rfl
theorem mlook_M : ∀ (M : List Tm) (v : Int), mlook v (cellsM M) = if v ∈ M.map (·.1) then some (inA (getM M v)) else none
  | [], v => by simp [cellsM, mlook]
  | m :: r, v => by
    rw [cellsM, mlook, mlook_M r v, show getM (m :: r) v = if m.1 = v then m.2 else getM r v from rfl]
    by_cases h : m.1 = v
    · rw [if_pos h, if_pos h, if_pos (by simp [h])]
    · have h' : ¬ v = m.1 := fun e => h e.symm
      rw [if_neg h, if_neg h]
      by_cases h2 : v ∈ r.map (·.1)
      · rw [if_pos h2, if_pos (by rw [List.map_cons]; exact List.mem_cons_of_mem _ h2)]
      · rw [if_neg h2, if_neg (by rw [List.map_cons, List.mem_cons]; exact fun e => e.elim h' h2)]
theorem getM_not : ∀ (M : List Tm) (v : Int), ¬ v ∈ M.map (·.1) → getM M v = 0
  | [], v, _ => rfl
  | m :: r, v, h => by
    rw [List.map_cons, List.mem_cons] at h
    unfold getM
    rw [if_neg (fun e => h (.inl e.symm)), getM_not r v (fun e => h (.inr e))]
/-- What a look-up gives, the key there or not. -/
theorem found_M (M : List Tm) (v : Int) : foundA false (.int .i64 0) (mlook v (cellsM M)) = inA (getM M v) := by
  rw [mlook_M]
  split
  · rfl
  · rename_i h; rw [getM_not M v h]; rfl
theorem mput_M : ∀ (M : List Tm) (v x : Int), mputC .i64 v (inA x) (cellsM M) = cellsM (putM M v x)
  | [], v, x => rfl
  | m :: r, v, x => by
    unfold putM
    rw [cellsM, mputC]
    by_cases h : m.1 = v
    · rw [if_pos h, if_pos h]; rfl
    · rw [if_neg h, if_neg h, mput_M r v x]; rfl
/-- A contract in the world, of a function that leaves all that was there alone, boxes and rows too. -/
theorem afn_belowB {P : Program} {f : FuncId} {args bxs : List AV} {r : AV}
    (h : ∀ (w : World) (G : Gh) (vs : Array Value), BSim P (fun b => b < w.heap.size ∧ ∀ k, G.γ k ≠ some b) G (extGet bxs) w → vs.size = args.length → (∀ j (h : j < args.length), VRel G (extGet bxs) (vs.getD j undef) args[j]) →
      Calls P f vs w fun e w' => ∃ v, e = .returned v ∧ PRel G.Z v r ∧ Below w.heap.size w w') : AFn P f args bxs r bxs := fun w G vs hst hX hvs hargs => by
  have hbl : ∀ k g, G.γ k = some g → g < w.heap.size := fun k g hg => by
    exact (hst.box k g hg).2.2.lt
  refine (h w G vs hst hvs hargs).mono fun e w' ⟨v, he, hr, hb⟩ => ⟨v, G, he, .p hr, ⟨fun b o v hz => ?_, fun k g hk => ?_, hst.real, hst.inj, hst.gl⟩, ⟨hb.os, hb.tape, hb.output, hb.size, fun b hp _ => hb.block b hp.1⟩, .refl _ _, fun _ _ _ _ => rfl⟩
  · have := hst.agree b o v hz
    exact ⟨(hb.cell (p := ⟨b, o, none⟩) (World.block_lt_of_cell? w ⟨b, o, none⟩ this.1)).trans this.1, this.2⟩
  · obtain ⟨q1, q2, q3⟩ := hst.box k g hk
    exact ⟨q1, q2, q3.step (.refl _ _) rfl rfl rfl (hb.block g (hbl k g hk)) fun o => rfl⟩
end Go.Proofs.Ytjabaenpkimmjaa

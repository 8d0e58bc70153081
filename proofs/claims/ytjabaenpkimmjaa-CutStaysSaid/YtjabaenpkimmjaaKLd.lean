/- K: boxes lent to a function that reads them alone and hands back constants. No program is in sight. -/
import Derived.Test.YtjabaenpkimmjaaKP
namespace Go.Proofs.Ytjabaenpkimmjaa
set_option linter.unusedSimpArgs false
set_option linter.unusedVariables false
open Go.RowKit
def startB (bxs : List AV) : AMap := argMap 20000 bxs
theorem mget_startB (bxs : List AV) (k : Nat) : mget (startB bxs) k = extRaw bxs k := by
  unfold startB
  have := mget_argMap bxs 20000 k []
  rw [List.append_nil] at this
  rw [this]
  by_cases h : 20000 ≤ k ∧ k < 20000 + bxs.length
  · rw [if_pos h]; unfold extRaw; rw [if_pos h.1]
  · rw [if_neg h, extRaw_u h]; rfl
theorem lm_startB (bxs : List AV) : lm (startB bxs) = extGet bxs := by
  show lk (mget (startB bxs)) = lk (extRaw bxs)
  rw [funext (mget_startB bxs)]
/-- All that lies in the boxes is sealed for a time: each value reads as its tree without names. -/
theorem lend_seal {P : Program} {w : World} {G : Gh} {bxs : List AV} {Pr : Nat → Prop} (hst : BSim P Pr G (extGet bxs) w) :
    ∃ Z1 : Seal, SealLe G.Z Z1 ∧ (∀ b o v, Z1 b o = some v → w.cell? ⟨b, o, none⟩ = some v ∧ v.oneCell' = true) ∧ ∀ k {x v}, VRel G (extGet bxs) v x → PRel Z1 v (pureX [] (startB bxs) k x) := by
  have hX : XP w (fun b => (∃ cs, globX b = some cs) ∧ False) → True := fun _ => trivial
  let E : Env := ⟨P, 0, w, G, extGet [], fun _ => False, ⟨fun k _ => ext_nil k, fun g cs hg => by
    exfalso; exact absurd hg (by simp [globX])⟩⟩
  have hsim : Sim E (startB bxs) { tmps := #[], defers := [] } w G := by
    refine ⟨rfl, rfl, fun t ht => ?_, ?_, ⟨rfl, rfl, rfl, Nat.le_refl _, fun b hb => hb.elim⟩, ?_, fun _ _ h => h.elim⟩
    · rw [mget_startB, extRaw_u (by omega)]; exact .p (.u _)
    · rw [lm_startB]; exact ⟨hst.agree, fun k g hk => ⟨(hst.box k g hk).1, fun h => h, (hst.box k g hk).2.2⟩, hst.real, hst.inj, hst.gl⟩
    · rw [lm_startB]; exact ⟨.refl _, fun k _ => .u (ext_nil k)⟩
  refine ⟨sealAll [] G (startB bxs) w, sealAll_le _ _ _ _, fun b o v hz => ?_, fun k x v hv => ?_⟩
  · rcases sealAll_of hz with hz | ⟨hc, ⟨k, cs, ty, h6, h7, h8, h9⟩ | ⟨k, cs, ver, e, sz, h6, h7, h8, h9, h10⟩⟩
    · exact hst.agree b o v hz
    rotate_left
    · refine ⟨hc, ?_⟩
      obtain ⟨⟨c, hc1, hcs, hce, hle, _, hr⟩, _⟩ := row_cells hsim h8 h7
      rw [cell_of_row _ b o c e _ hc1] at hc
      obtain ⟨q1, q2⟩ := Array.getElem?_eq_some_iff.1 hc
      have := (hr (o - G.β k) (by omega)).2
      rw [show G.β k + (o - G.β k) = o by omega, Array.getD_eq_getD_getElem?, Array.getElem?_eq_getElem q1] at this
      simpa [q2] using this
    · refine ⟨hc, ?_⟩
      cases hm : isM ty with
      | true =>
        obtain ⟨_, _, hbx⟩ := hsim.st.box k b h7
        rcases hbx with ⟨cs1, ty1, e1, ⟨hm1, _⟩ | ⟨_, es, clk, e2, _⟩⟩ | ⟨_, _, e1, _⟩ | ⟨_, _, _, _, e1, _⟩
        · rw [h8] at e1; cases e1; rw [hm] at hm1; cases hm1
        · simp [World.cell?, e2] at hc
        · rw [h8] at e1; cases e1
        · rw [h8] at e1; cases e1
      | false =>
      obtain ⟨c, hc1, hr, _, _, hfc⟩ := box_cells hsim (hsim.st.box k b h7).1 h8 h7 hm
      rw [cell_of_row _ b o c ty _ hc1] at hc
      obtain ⟨q1, q2⟩ := Array.getElem?_eq_some_iff.1 hc
      have := (box_cell hr h9).2
      rw [Array.getD_eq_getD_getElem?, Array.getElem?_eq_getElem q1] at this
      simpa [q2] using this
  · rw [← lm_startB] at hv
    exact pureX_rel (E := E) hsim k hv
/-- A tree without memory. -/
def flatA : Nat → AV → Bool
  | 0, _ => false
  | _ + 1, .c _ => true
  | n + 1, .ifc _ x => flatA n x
  | n + 1, .agg l => l.all (flatA n)
  | n + 1, .tup l => l.all (flatA n)
  | _, _ => false
theorem flat_rel {Z Z' : Seal} {v : Value} {x : AV} (h : PRel Z v x) : ∀ n, flatA n x = true → PRel Z' v x := by
  induction h with
  | c x => intro n _; exact .c x
  | u x => intro n h; cases n <;> cases h
  | sl => intro n h; cases n <;> cases h
  | rf => intro n h; cases n <;> cases h
  | agg vs l hs h1 hp ih =>
    intro n h
    cases n with
    | zero => cases h
    | succ n => exact .agg vs l hs h1 fun j hj => ih j hj n (List.all_eq_true.1 h _ (List.getElem_mem hj))
  | tup vs l hs hp ih =>
    intro n h
    cases n with
    | zero => cases h
    | succ n => exact .tup vs l hs fun j hj => ih j hj n (List.all_eq_true.1 h _ (List.getElem_mem hj))
  | ifc t v x h ih =>
    intro n hh
    cases n with
    | zero => cases hh
    | succ n => exact .ifc t v x (ih n hh)
  | fn => intro n h; cases n <;> cases h
theorem afn_lendD {P : Program} {f : FuncId} {args args' bxs : List AV} {r : AV} (n : Nat) (h : AFn P f args' [] r []) (ha : args.map (pureX [] (startB bxs) 5) = args') (hr : flatA n r = true) : AFn P f args bxs r bxs := fun w G vs hst hX hvs hargs => by
  obtain ⟨Z1, hle, hag, hp⟩ := lend_seal hst
  have hl : args'.length = args.length := by rw [← ha]; simp
  have hst0 : BSim P (fun b => b < w.heap.size ∧ ∀ k, (Gh.mk Z1 (fun _ => none) G.κ G.β).γ k ≠ some b) (Gh.mk Z1 (fun _ => none) G.κ G.β) (extGet []) w :=
    ⟨hag, (fun k g hk => by cases hk), (fun k cs ty _ hk => by rw [ext_nil] at hk; cases hk), (fun k k' g hk => by cases hk), hst.gl.mono hle⟩
  refine (h w ⟨Z1, fun _ => none, G.κ, G.β⟩ vs hst0 (fun g cs hg => ⟨(hX g cs hg).1, (hX g cs hg).2.1, fun k hk => by cases hk⟩) (by omega) fun j hj => ?_).mono ?_
  · have hj' : j < args.length := by omega
    have e1 : args'[j] = pureX [] (startB bxs) 5 args[j] := by
      have : args'[j]? = some (pureX [] (startB bxs) 5 args[j]) := by rw [← ha]; simp [hj']
      rw [List.getElem?_eq_getElem hj] at this
      exact Option.some.inj this
    rw [e1]
    exact .p (show PRel Z1 _ _ from hp 5 (hargs j hj'))
  · rintro e' w' ⟨v, G', h1, h2, h3, h4, h5, h6⟩
    have hz : ∀ b o, b < w.heap.size → G'.Z b o = Z1 b o := fun b o hb => h6 b o hb fun k hk => by cases hk
    have hbl : ∀ b, b < w.heap.size → w'.heap[b]? = w.heap[b]? := fun b hb => h4.block b ⟨hb, fun k hk => by cases hk⟩ hb
    let Z2 : Seal := fun b o => if b < w.heap.size then G.Z b o else G'.Z b o
    have hold : ∀ b o, b < w.heap.size → Z2 b o = G.Z b o := fun b o hb => if_pos hb
    have hle2 : SealLe G.Z Z2 := fun b o v hv => (hold b o (World.block_lt_of_cell? w ⟨b, o, none⟩ (hst.agree b o v hv).1)).trans hv
    have hlt : ∀ k g, G.γ k = some g → g < w.heap.size := fun k g hg => (hst.box k g hg).2.2.lt
    have hs : BStep G (extGet bxs) ⟨Z2, G.γ, G.κ, G.β⟩ (extGet bxs) := ⟨hle2, fun k _ => .same rfl rfl rfl rfl⟩
    refine ⟨v, ⟨Z2, G.γ, G.κ, G.β⟩, h1, .p (flat_rel (pure_of_u (G := G') (fun k _ => ext_nil k) h2) n hr), ⟨fun b o u hu => ?_, fun k g hk => ?_, hst.real, hst.inj, hst.gl.mono hle2⟩, ⟨h4.os, h4.tape, h4.output, h4.size, fun b hb hlt => hbl b hlt⟩, hs, fun b o hb _ => hold b o hb⟩
    · have hu' : (if b < w.heap.size then G.Z b o else G'.Z b o) = some u := hu
      split at hu'
      · rename_i hb
        have := hst.agree b o u hu'
        exact ⟨(World.cell?_of_block (a := ⟨b, o, none⟩) (hbl b hb)).trans this.1, this.2⟩
      · exact h3.agree b o u hu'
    · obtain ⟨q1, q2, q3⟩ := hst.box k g hk
      exact ⟨q1, q2, q3.step hs rfl rfl rfl (hbl g (hlt k g hk)) fun o => hold g o (hlt k g hk)⟩
end Go.Proofs.Ytjabaenpkimmjaa

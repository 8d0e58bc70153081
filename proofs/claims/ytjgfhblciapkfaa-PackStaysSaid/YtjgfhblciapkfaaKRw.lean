/- K: rows of one's own that the library turns in place. No program is in sight. -/
import Derived.Test.YtjgfhblciapkfaaKP
namespace Go.Proofs.Ytjgfhblciapkfaa
set_option linter.unusedSimpArgs false
set_option linter.unusedVariables false
open Go.RowKit
/-- A contract in the world, of a function that turns a row in place and leaves all else alone; the row's cells are constants. -/
theorem afn_turnown {P : Program} {f : FuncId} {e sz n ver : Nat} {xs ys : List Value} {r : AV} (res : Option Addr → Nat → Value) (h1 : ∀ x ∈ ys, x.oneCell' = true) (hx : xs.length = n * sz) (hy : ys.length = n * sz)
    (hres : ∀ (G : Gh) (ad : Option Addr) (cap : Nat), n ≤ cap → (ad = none → cap = 0) → OwAt G 20000 0 sz ad cap → VRel G (extGet [.br (ys.map .c) ver e sz]) (res ad cap) r)
    (h0 : n = 0 → ∀ (w : World) (ad : Option Addr) (cap : Nat), Calls P f #[.slice ad 0 cap] w fun e' w' => e' = .returned (res ad cap) ∧ w' = w)
    (h : ∀ (w : World) (g o cap : Nat) (cur : Array Value), w.heap[g]? = some (.cells cur e (0, 0)) → n ≤ cap → o + n * sz ≤ cur.size → (∀ j (hj : j < xs.length), cur.getD (o + j) undef = xs[j]) →
      Calls P f #[.slice (some ⟨g, o, none⟩) n cap] w fun e' w' => e' = .returned (res (some ⟨g, o, none⟩) cap) ∧ w.grownBy w' (some g) ∧ ∃ cur', w'.heap[g]? = some (.cells cur' e (0, 0)) ∧ cur'.size = cur.size ∧ ∀ j (hj : j < ys.length), cur'.getD (o + j) undef = ys[j]) :
    AFn P f [.ow 20000 0 n ver] [.br (xs.map .c) ver e sz] r [.br (ys.map .c) ver e sz] := fun w G vs hst hX hvs hargs => by
  have hv := hargs 0 (by simp)
  simp only [List.getElem_cons_zero] at hv
  obtain ⟨ad, cap, cs, v', e', sz', ev, hn, had, _, hB, hvv, how⟩ := inv_ow hv
  have hB' : AV.br (xs.map .c) ver e sz = .br cs v' e' sz' := hB
  cases hB'
  have how := how rfl
  have hvs1 : vs = #[.slice ad n cap] := by
    cases vs with
    | mk l =>
      match l, hvs with
      | [v0], _ => simp at ev; subst ev; rfl
  subst hvs1
  by_cases hn0 : n = 0
  · subst hn0
    have ex : xs = [] := List.eq_nil_of_length_eq_zero (by rw [hx, Nat.zero_mul])
    have ey : ys = [] := List.eq_nil_of_length_eq_zero (by rw [hy, Nat.zero_mul])
    subst ex; subst ey
    refine (h0 rfl w ad cap).mono fun e' w' ⟨he, hw⟩ => ?_
    subst hw
    exact ⟨_, G, he, hres G ad cap hn had how, hst, .refl _ _, .refl _ _, fun _ _ _ _ => rfl⟩
  cases hg : G.γ 20000 with
  | none => have := how.1 hg; omega
  | some g =>
    obtain ⟨q1, q2⟩ := how.2 g hg
    have q2 := q2.resolve_left (by omega)
    subst q2
    rw [Nat.add_zero]
    obtain ⟨_, hpr, hbx⟩ := hst.box 20000 g hg
    have hx1 : ∀ (zs : List Value) k, extGet [.br (zs.map .c) ver e sz] k = if k = 20000 then .br (zs.map .c) ver e sz else .u := fun zs k => ext_one _ k
    rcases hbx with ⟨_, _, r1, _⟩ | ⟨_, _, r1, _⟩ | ⟨cs, v2, e2, sz2, r1, cur, r2, r3, r4, r5, r6, r7⟩
    · rw [hx1, if_pos rfl] at r1; cases r1
    · rw [hx1, if_pos rfl] at r1; cases r1
    rw [hx1, if_pos rfl] at r1; cases r1
    have honly : ∀ k g', G.γ k = some g' → k = 20000 := fun k g' hk => by
      apply Classical.byContradiction
      intro hne
      exact (hst.box k g' hk).2.2.not_u (by rw [hx1, if_neg hne])
    rw [List.length_map, hx] at r5
    refine (h w g (G.β 20000) cap cur r2 hn (by omega) fun j hj => ?_).mono fun e' w' ⟨he, hgr, cur', c1, c2, c3⟩ => ?_
    · have := (r7 j (by simpa using hj)).1
      rw [List.getElem_map] at this
      exact inv_c this
    refine ⟨_, G, he, hres G _ cap hn had how, ⟨fun b o v hz => ?_, fun k g' hk => ?_, fun k cs ty _ hc' => ?_, hst.inj, hst.gl⟩, ⟨hgr.os, hgr.tape, hgr.output, hgr.size, fun b hp _ => hgr.block b hp.1 fun e' => hp.2 20000 (by rw [hg, e'])⟩,
      ⟨.refl _, fun k _ => ?_⟩, fun _ _ _ _ => rfl⟩
    · have := hst.agree b o v hz
      have hbg : b ≠ g := fun e' => by rw [e', r6] at hz; cases hz
      exact ⟨(World.cell?_of_block (a := ⟨b, o, none⟩) (hgr.block b (World.block_lt_of_cell? w ⟨b, o, none⟩ this.1) fun e' => hbg (by cases e'; rfl))).trans this.1, this.2⟩
    · have hk20 := honly k g' hk
      subst hk20
      rw [hg] at hk; cases hk
      refine ⟨by decide, hpr, .inr (.inr ⟨ys.map .c, ver, e, sz, by rw [hx1, if_pos rfl], cur', c1, by rw [c2]; exact r3, r4, by rw [List.length_map, hy]; exact r5, r6, fun j hj => ?_⟩)⟩
      have hj' : j < ys.length := by simpa using hj
      rw [List.getElem_map, c3 j hj']
      exact ⟨.p (.c _), h1 _ (List.getElem_mem hj')⟩
    · rw [hx1] at hc'
      split at hc' <;> cases hc'
    · rw [hx1, hx1]
      split
      · exact .br rfl rfl (.inr ⟨rfl, rfl, rfl, rfl⟩)
      · exact .u rfl
end Go.Proofs.Ytjgfhblciapkfaa

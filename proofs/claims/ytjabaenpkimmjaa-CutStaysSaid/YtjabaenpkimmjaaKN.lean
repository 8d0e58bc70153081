/- K: tokens for rows that hang in a box. No program is in sight. -/
import Derived.Test.YtjabaenpkimmjaaKM
namespace Go.Proofs.Ytjabaenpkimmjaa
set_option linter.unusedSimpArgs false
set_option linter.unusedVariables false
open Go.RowKit
/-- A slice in a box, whose capacity is its length, may have a token at any time. -/
theorem ale_tokB {E : Env} {σ : AMap} {b k0 i n : Nat} {cs cells : List AV} {ty : TypeId} (e : TypeId) (hb : 10000 ≤ b ∧ b < 20000) (hk0 : 10000 ≤ k0 ∧ k0 < 1000000) (hne : ¬ k0 = b) (hu : mget σ b = .u) (hB : mget σ k0 = .bc cells ty)
    (hi : cells[i]? = some (.sl cs n .full)) : ALe E σ (mset (mset σ b (.bt n e)) k0 (.bc (cells.set i (.sl cs n (.tok b))) ty)) := fun a w G hs => by
  have hm : ∀ k, mget (mset (mset σ b (.bt n e)) k0 (.bc (cells.set i (.sl cs n (.tok b))) ty)) k = if k0 = k then .bc (cells.set i (.sl cs n (.tok b))) ty else if b = k then .bt n e else mget σ k := fun k => by rw [mget_mset, mget_mset]
  have hub : lm σ b = .u := (lk_real (by omega)).trans hu
  have hBl : lm σ k0 = .bc cells ty := (lk_real hk0.2).trans hB
  have hlm : ∀ k, 10000 ≤ k → lm (mset (mset σ b (.bt n e)) k0 (.bc (cells.set i (.sl cs n (.tok b))) ty)) k = if k0 = k then .bc (cells.set i (.sl cs n (.tok b))) ty else if b = k then .bt n e else lm σ k := fun k hk => by
    have e1 : ∀ k, 10000 ≤ k → lm (mset σ b (.bt n e)) k = if b = k then .bt n e else lm σ k := lk_set (fun k _ _ => mget_mset ..) (by omega) (by rw [hu]; rfl) rfl
    have e2 : ∀ k, 10000 ≤ k → lm (mset (mset σ b (.bt n e)) k0 (.bc (cells.set i (.sl cs n (.tok b))) ty)) k = if k0 = k then .bc (cells.set i (.sl cs n (.tok b))) ty else lm (mset σ b (.bt n e)) k := lk_set (fun k _ _ => mget_mset ..) hk0.2 (by rw [mget_mset, if_neg (fun e => hne e.symm), hB]; rfl) rfl
    rw [e2 k hk]
    split
    · rfl
    · exact e1 k hk
  generalize mset (mset σ b (.bt n e)) k0 (.bc (cells.set i (.sl cs n (.tok b))) ty) = σ' at hm hlm
  have hγ : G.γ b = none := by
    cases hg : G.γ b with
    | none => rfl
    | some g =>
      exact ((hs.st.box b g hg).2.2.not_u ((lk_real (by omega)).trans hu)).elim
  have hst : BStep G (lm σ) G (lm σ') := ⟨.refl _, fun k hk => by
    rw [hlm k hk]
    by_cases h0 : k0 = k
    · subst h0; rw [if_pos rfl]; exact .bc hBl rfl rfl
    rw [if_neg h0]
    by_cases h1 : b = k
    · subst h1; exact .u hub
    · rw [if_neg h1]; exact .same rfl rfl rfl rfl⟩
  refine ⟨G, hs.defers, hs.tsize, fun k hk => ?_, ⟨hs.st.agree, fun k g hk => ?_, fun k cs' ty' hk hc => ?_, hs.st.inj, hs.st.gl⟩, hs.fr, hs.step.trans hst, hs.zp⟩
  · rw [hm, if_neg (by omega), if_neg (by omega)]; exact (hs.slots k hk).step hst
  · obtain ⟨h1, h2, h3⟩ := hs.st.box k g hk
    refine ⟨h1, h2, ?_⟩
    by_cases h0 : k0 = k
    · subst h0
      rcases h3 with ⟨cs1, ty1, q1, ⟨qm, c, q2, q3, q4, q5⟩ | ⟨qm, es, clk, q2, q3, q4⟩⟩ | ⟨_, _, q1, _⟩ | ⟨_, _, _, _, q1, _⟩
      · rw [hBl] at q1; cases q1
        refine .inl ⟨_, _, by rw [hlm _ h1, if_pos rfl], .inl ⟨qm, c, q2, (by unfold FitsC; rw [List.length_set]; exact q3), q4, fun j hj => ?_⟩⟩
        have hj' : j < cells.length := by simpa using hj
        obtain ⟨r1, r2⟩ := q5 j hj'
        refine ⟨?_, r2⟩
        rw [List.getElem_set]
        split
        · rename_i hij
          subst hij
          obtain ⟨hl, hi2⟩ := List.getElem?_eq_some_iff.1 hi
          rw [hi2] at r1
          obtain ⟨ad, cap, b', off, f, ev, ⟨p1, p2, p3, p4, p5⟩, hf, _⟩ := inv_sl r1
          rw [ev]
          refine .tok ad n cap cs b n e (.sl ad b' off n cap .none cs f (.inl rfl) p1 p2 p3 p4 p5) hb.1 (by rw [hlm _ hb.1, if_neg hne, if_pos rfl]) (Nat.le_refl _) fun _ => ⟨fun _ => hf rfl, fun g hg => by rw [hγ] at hg; cases hg⟩
        · exact r1.step hst
      · rw [hBl] at q1; cases q1
        obtain ⟨q4, _⟩ := q4
        rw [q4] at hi
        obtain ⟨v, hv⟩ := mapCells_c (List.mem_of_getElem? hi)
        cases hv
      · rw [hBl] at q1; cases q1
      · rw [hBl] at q1; cases q1
    · refine h3.step hst ?_ rfl rfl rfl fun _ => rfl
      rw [hlm k h1, if_neg h0, if_neg (fun h4 => by rw [← h4, hγ] at hk; cases hk)]
  · rw [hlm k hk] at hc
    by_cases h0 : k0 = k
    · subst h0; exact hs.st.real k0 cells ty hk0.1 hBl
    rw [if_neg h0] at hc
    by_cases h1 : b = k
    · rw [if_pos h1] at hc; cases hc
    · rw [if_neg h1] at hc; exact hs.st.real k cs' ty' hk hc
/-- A slice of nothing in a box becomes a row of one's own. -/
theorem ale_owB {E : Env} {σ : AMap} {b k0 i : Nat} {cells : List AV} {ty : TypeId} (e sz : Nat) (hb : 10000 ≤ b ∧ b < 20000) (hk0 : 10000 ≤ k0 ∧ k0 < 1000000) (hne : ¬ k0 = b) (hu : mget σ b = .u) (hB : mget σ k0 = .bc cells ty)
    (hi : cells[i]? = some (.sl [] 0 .full)) : ALe E σ (mset (mset σ b (.br [] 0 e sz)) k0 (.bc (cells.set i (.ow b 0 0 0)) ty)) := fun a w G hs => by
  have hm : ∀ k, mget (mset (mset σ b (.br [] 0 e sz)) k0 (.bc (cells.set i (.ow b 0 0 0)) ty)) k = if k0 = k then .bc (cells.set i (.ow b 0 0 0)) ty else if b = k then .br [] 0 e sz else mget σ k := fun k => by rw [mget_mset, mget_mset]
  have hub : lm σ b = .u := (lk_real (by omega)).trans hu
  have hBl : lm σ k0 = .bc cells ty := (lk_real hk0.2).trans hB
  have hlm : ∀ k, 10000 ≤ k → lm (mset (mset σ b (.br [] 0 e sz)) k0 (.bc (cells.set i (.ow b 0 0 0)) ty)) k = if k0 = k then .bc (cells.set i (.ow b 0 0 0)) ty else if b = k then .br [] 0 e sz else lm σ k := fun k hk => by
    have e1 : ∀ k, 10000 ≤ k → lm (mset σ b (.br [] 0 e sz)) k = if b = k then .br [] 0 e sz else lm σ k := lk_set (fun k _ _ => mget_mset ..) (by omega) (by rw [hu]; rfl) rfl
    have e2 : ∀ k, 10000 ≤ k → lm (mset (mset σ b (.br [] 0 e sz)) k0 (.bc (cells.set i (.ow b 0 0 0)) ty)) k = if k0 = k then .bc (cells.set i (.ow b 0 0 0)) ty else lm (mset σ b (.br [] 0 e sz)) k := lk_set (fun k _ _ => mget_mset ..) hk0.2 (by rw [mget_mset, if_neg (fun e => hne e.symm), hB]; rfl) rfl
    rw [e2 k hk]
    split
    · rfl
    · exact e1 k hk
  generalize mset (mset σ b (.br [] 0 e sz)) k0 (.bc (cells.set i (.ow b 0 0 0)) ty) = σ' at hm hlm
  have hγ : G.γ b = none := by
    cases hg : G.γ b with
    | none => rfl
    | some g =>
      exact ((hs.st.box b g hg).2.2.not_u ((lk_real (by omega)).trans hu)).elim
  have hst : BStep G (lm σ) G (lm σ') := ⟨.refl _, fun k hk => by
    rw [hlm k hk]
    by_cases h0 : k0 = k
    · subst h0; rw [if_pos rfl]; exact .bc hBl rfl rfl
    rw [if_neg h0]
    by_cases h1 : b = k
    · subst h1; exact .u hub
    · rw [if_neg h1]; exact .same rfl rfl rfl rfl⟩
  refine ⟨G, hs.defers, hs.tsize, fun k hk => ?_, ⟨hs.st.agree, fun k g hk => ?_, fun k cs' ty' hk hc => ?_, hs.st.inj, hs.st.gl⟩, hs.fr, hs.step.trans hst, hs.zp⟩
  · rw [hm, if_neg (by omega), if_neg (by omega)]; exact (hs.slots k hk).step hst
  · obtain ⟨h1, h2, h3⟩ := hs.st.box k g hk
    refine ⟨h1, h2, ?_⟩
    by_cases h0 : k0 = k
    · subst h0
      rcases h3 with ⟨cs1, ty1, q1, ⟨qm, c, q2, q3, q4, q5⟩ | ⟨qm, es, clk, q2, q3, q4⟩⟩ | ⟨_, _, q1, _⟩ | ⟨_, _, _, _, q1, _⟩
      · rw [hBl] at q1; cases q1
        refine .inl ⟨_, _, by rw [hlm _ h1, if_pos rfl], .inl ⟨qm, c, q2, (by unfold FitsC; rw [List.length_set]; exact q3), q4, fun j hj => ?_⟩⟩
        have hj' : j < cells.length := by simpa using hj
        obtain ⟨r1, r2⟩ := q5 j hj'
        refine ⟨?_, r2⟩
        rw [List.getElem_set]
        split
        · rename_i hij
          subst hij
          obtain ⟨hl, hi2⟩ := List.getElem?_eq_some_iff.1 hi
          rw [hi2] at r1
          obtain ⟨ad, cap, b', off, f, ev, ⟨p1, p2, p3, p4, p5⟩, hf, _⟩ := inv_sl r1
          rw [ev]
          have hcap := hf rfl
          exact .ow ad 0 cap b 0 0 [] 0 e sz hb.1 (by rw [hlm _ hb.1, if_neg hne, if_pos rfl]) p1 (fun _ => hcap) (Nat.le_refl _) fun _ => ⟨fun _ => hcap, fun g hg => by rw [hγ] at hg; cases hg⟩
        · exact r1.step hst
      · rw [hBl] at q1; cases q1
        obtain ⟨q4, _⟩ := q4
        rw [q4] at hi
        obtain ⟨v, hv⟩ := mapCells_c (List.mem_of_getElem? hi)
        cases hv
      · rw [hBl] at q1; cases q1
      · rw [hBl] at q1; cases q1
    · refine h3.step hst ?_ rfl rfl rfl fun _ => rfl
      rw [hlm k h1, if_neg h0, if_neg (fun h4 => by rw [← h4, hγ] at hk; cases hk)]
  · rw [hlm k hk] at hc
    by_cases h0 : k0 = k
    · subst h0; exact hs.st.real k0 cells ty hk0.1 hBl
    rw [if_neg h0] at hc
    by_cases h1 : b = k
    · rw [if_pos h1] at hc; cases hc
    · rw [if_neg h1] at hc; exact hs.st.real k cs' ty' hk hc
end Go.Proofs.Ytjabaenpkimmjaa

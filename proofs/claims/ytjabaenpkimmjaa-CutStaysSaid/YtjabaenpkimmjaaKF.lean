/- K: memory read and written, boxes made, structs and slices built, sound. No program is in sight. -/
import Derived.Test.YtjabaenpkimmjaaKE
import Derived.Great.BuildSlice
namespace Go.Proofs.Ytjabaenpkimmjaa
set_option linter.unusedSimpArgs false
set_option linter.unusedVariables false
open Go.RowKit

/-- Cells and their trees. -/
def CRel (G : Gh) (B : Nat → AV) (vs : List Value) (cs : List AV) : Prop := vs.length = cs.length ∧ ∀ j (h : j < cs.length), VRel G B (vs.getD j undef) cs[j] ∧ (vs.getD j undef).oneCell' = true
theorem CRel.nil (G : Gh) (B : Nat → AV) : CRel G B [] [] := ⟨rfl, fun j h => by simp at h⟩
theorem CRel.cons {G : Gh} {B : Nat → AV} {v : Value} {x : AV} {vs : List Value} {cs : List AV} (hx : VRel G B v x) (h1 : v.oneCell' = true) (h : CRel G B vs cs) : CRel G B (v :: vs) (x :: cs) :=
  ⟨by simp [h.1], fun j hj => by
    cases j with
    | zero => exact ⟨hx, h1⟩
    | succ j => exact h.2 j (by simpa using hj)⟩
theorem CRel.append {G : Gh} {B : Nat → AV} {vs vs' : List Value} {cs cs' : List AV} (h : CRel G B vs cs) (h' : CRel G B vs' cs') : CRel G B (vs ++ vs') (cs ++ cs') :=
  ⟨by simp [h.1, h'.1], fun j hj => by
    have e := h.1
    by_cases hlt : j < cs.length
    · have := h.2 j hlt
      rw [List.getElem_append_left hlt]
      simpa [List.getD_eq_getElem?_getD, List.getElem?_append_left (show j < vs.length by omega)] using this
    · have hj' : j - cs.length < cs'.length := by simp at hj; omega
      have := h'.2 (j - cs.length) hj'
      rw [List.getElem_append_right (by omega)]
      simpa [List.getD_eq_getElem?_getD, List.getElem?_append_right (show vs.length ≤ j by omega), e] using this⟩
theorem CRel.take {G : Gh} {B : Nat → AV} {vs : List Value} {cs : List AV} (h : CRel G B vs cs) (n : Nat) : CRel G B (vs.take n) (cs.take n) :=
  ⟨by simp [h.1], fun j hj => by
    have hj' : j < n ∧ j < cs.length := by simp at hj; omega
    have := h.2 j hj'.2
    simpa [List.getD_eq_getElem?_getD, List.getElem?_take, hj'.1] using this⟩
theorem CRel.drop {G : Gh} {B : Nat → AV} {vs : List Value} {cs : List AV} (h : CRel G B vs cs) (n : Nat) : CRel G B (vs.drop n) (cs.drop n) :=
  ⟨by simp [h.1], fun j hj => by
    have hj' : n + j < cs.length := by simp at hj; omega
    have := h.2 (n + j) hj'
    simpa [List.getD_eq_getElem?_getD, List.getElem?_drop] using this⟩
theorem CRel.putAt {G : Gh} {B : Nat → AV} {vs us : List Value} {cs xs : List AV} (h : CRel G B vs cs) (h' : CRel G B us xs) (o : Nat) : CRel G B (vs.take o ++ us ++ vs.drop (o + us.length)) (putAt cs o xs) := by
  unfold Go.Proofs.Ytjabaenpkimmjaa.putAt
  rw [h'.1]
  exact ((h.take o).append h').append (h.drop _)
theorem CRel.step {G G' : Gh} {B B' : Nat → AV} (hs : BStep G B G' B') {vs : List Value} {cs : List AV} (h : CRel G B vs cs) : CRel G' B' vs cs := ⟨h.1, fun j hj => ⟨(h.2 j hj).1.step hs, (h.2 j hj).2⟩⟩
theorem putAt_length {cs xs : List AV} {o : Nat} (h : o + xs.length ≤ cs.length) : (putAt cs o xs).length = cs.length := by simp [putAt]; omega

theorem allOne_mem : ∀ {l : List AV}, allOne l = true → ∀ x ∈ l, x.one = true
  | x :: r, h, y, hy => by
    simp only [allOne, Bool.and_eq_true] at h
    rcases List.mem_cons.1 hy with rfl | hy
    · exact h.1
    · exact allOne_mem h.2 y hy
theorem one_val {G : Gh} {B : Nat → AV} {v : Value} {x : AV} (h : VRel G B v x) (h1 : x.one = true) : v.oneCell' = true := by
  cases x with
  | c x => rw [inv_c h]; exact h1
  | u => simp [AV.one] at h1
  | sl cs n o => obtain ⟨a, cap, b, off, f, rfl, _⟩ := inv_sl h; rfl
  | rf cs o => obtain ⟨b, off, f, rfl, _⟩ := inv_rf h; rfl
  | agg cs => simp [AV.one] at h1
  | tup cs => simp [AV.one] at h1
  | ifc t x => obtain ⟨v', rfl, _⟩ := inv_ifc h; rfl
  | fn f a b => obtain ⟨va, vb, rfl, _⟩ := inv_fn h; rfl
  | loc b o => obtain ⟨g, cs, ty, rfl, _⟩ := inv_loc h; rfl
  | arr b o n e => obtain ⟨g, cap, cs, ty, rfl, _⟩ := inv_arr h; rfl
  | bc cs ty => simp [AV.one] at h1
  | bt n e => simp [AV.one] at h1
  | mp b => obtain ⟨g, cs, ty, rfl, _⟩ := inv_mp h; rfl
  | ow b off n ver => obtain ⟨a, cap, cs, v', e, sz, rfl, _⟩ := inv_ow h; rfl
  | lo b off ver => obtain ⟨g, o, cs, v', e, sz, rfl, _⟩ := inv_lo h; rfl
  | br cs ver e sz => simp [AV.one] at h1
  | fo rows => simp [AV.one] at h1
theorem cells_rel {G : Gh} {B : Nat → AV} {v : Value} {x : AV} (h : VRel G B v x) (h1 : allOne (cellsOfA x) = true) : CRel G B v.cells.toList (cellsOfA x) := by
  have single : x.one = true → CRel G B v.cells.toList [x] := fun hx => by
    have h2 := one_val h hx
    have : v.cells = #[v] := by cases v <;> simp [Value.oneCell'] at h2 <;> rfl
    rw [this]
    exact .cons h h2 (.nil _ _)
  cases x with
  | agg cs =>
    obtain ⟨vs, rfl, hs, h2, hp⟩ := inv_agg h
    show CRel G B vs.toList cs
    exact ⟨by simpa using hs, fun j hj => by simpa [Array.getD_eq_getD_getElem?] using And.intro (hp j hj) (h2 j hj)⟩
  | _ => exact single (by simpa [cellsOfA, allOne] using h1)

section
variable {E : Env} {o : Oper} {σ : AMap} {a : Act} {w : World} {G : Gh}

theorem und_agg {P : Program} {t : TypeId} {b : Bool} (h : aggOf P t = some b) : ∃ d, P.underlying t = some d ∧ d.isRow = b := by
  unfold aggOf at h
  cases hu : P.underlying t with
  | none => simp [hu] at h
  | some d => simp [hu] at h; exact ⟨d, rfl, by subst h; cases d <;> rfl⟩
/-- Reading at an address under which these cells lie. -/
theorem snd_ld {t : TypeId} {cs : List AV} {off b base : Nat} {f : Nat → Value} {k : AV → TR} {Goal : List (Nat × AV) → Prop} (hc : ∀ j, j < cs.length → w.cell? ⟨b, base + j, none⟩ = some (f j))
    (hv : ∀ j (h : j < cs.length), VRel G (lm σ) (f j) cs[j] ∧ (f j).oneCell' = true)
    (hk : ∀ v x, (Instr.loadAt t (.pointer (some ⟨b, base + off, none⟩))).run E.P w = .ok v w → VRel G (lm σ) v x → Snd E.P σ (k x) Goal) : Snd E.P σ (kLd E.P t cs off k) Goal := by
  unfold kLd
  split
  · rename_i n hn ha
    refine .need fun hle => ?_
    obtain ⟨d, hu, hd⟩ := und_agg ha
    have hl : ((List.range n).map fun j => f (off + j)).length = n := by simp
    refine hk (.agg ((List.range n).map fun j => f (off + j)).toArray) _ (run_loadAt_mid w b (base + off) t ((List.range n).map fun j => f (off + j)) d (fun j v hj => ?_) hu hd (by unfold szOf at hn; rw [hn, hl])) ?_
    · obtain ⟨h1, h2⟩ := List.getElem?_eq_some_iff.1 hj
      rw [hl] at h1
      rw [Nat.add_assoc, hc _ (by omega), ← h2]; simp
    · refine .agg _ _ (by simp; omega) (fun j hj => ?_) fun j hj => ?_
      · have hj' : j < n := by simp at hj; omega
        simpa [Array.getD_eq_getD_getElem?, hj'] using (hv (off + j) (by omega)).2
      · have hj' : j < n := by simp at hj; omega
        simpa [Array.getD_eq_getD_getElem?, hj'] using (hv (off + j) (by omega)).1
  · rename_i n hn ha
    refine .need fun hlt => ?_
    obtain ⟨d, hu, hd⟩ := und_agg ha
    refine hk (f off) _ ?_ ?_
    · have hagg : (isAgg t).run E.P w = .ok false w := by
        unfold isAgg
        rw [Sem.run_bind, run_underlying hu w]
        cases d <;> simp_all
      simp [Instr.loadAt, Instr.sureAddr, loadVar, hagg, hc off hlt]
    · rw [List.getD_eq_getElem?_getD, List.getElem?_eq_getElem hlt]
      exact (hv off hlt).1
  · exact .fail
theorem box_cells (h : Sim E σ a w G) {b : Nat} {cs : List AV} {ty : TypeId} (hb : 10000 ≤ b) (hB : lm σ b = .bc cs ty) {g : Nat} (hg : G.γ b = some g) (hm : isM ty = false) :
    ∃ c : Array Value, w.heap[g]? = some (.cells c ty (0, 0)) ∧ CRel G (lm σ) (c.toList.take cs.length) cs ∧ (∀ o, G.Z g o = none) ∧ ¬ E.Pr g ∧ FitsC c cs := by
  obtain ⟨_, hpr, h1⟩ := h.st.box b g hg
  rcases h1 with ⟨cs', ty', e, ⟨_, c, h2, h3, h4, h5⟩ | ⟨hm', _⟩⟩ | ⟨n, e, h2, _⟩ | ⟨_, _, _, _, h2, _⟩
  · rw [hB] at e; cases e
    exact ⟨c, h2, ⟨by rw [List.length_take]; have h31 : cs.length ≤ c.size := h3; have e : c.toList.length = c.size := Array.length_toList ..; omega, fun j hj => by simpa [Array.getD_eq_getD_getElem?, List.getD_eq_getElem?_getD, List.getElem?_take, hj] using h5 j hj⟩, h4, hpr, h3⟩
  · rw [hB] at e; cases e; rw [hm] at hm'; cases hm'
  · rw [hB] at h2; cases h2
  · rw [hB] at h2; cases h2
/-- The block of a row of one's own. -/
theorem row_cells (h : Sim E σ a w G) {b : Nat} {cs : List AV} {v : Nat} {e : TypeId} {sz : Nat} (hB : lm σ b = .br cs v e sz) {g : Nat} (hg : G.γ b = some g) :
    OwnAt E.P G (lm σ) w b g cs e sz ∧ ¬ E.Pr g := by
  obtain ⟨_, hpr, h1⟩ := h.st.box b g hg
  rcases h1 with ⟨_, _, h2, _⟩ | ⟨_, _, h2, _⟩ | ⟨_, _, _, _, h2, h3⟩
  · rw [hB] at h2; cases h2
  · rw [hB] at h2; cases h2
  · rw [hB] at h2; cases h2; exact ⟨h3, hpr⟩
theorem box_cell {c : Array Value} {cs : List AV} {B : Nat → AV} (hr : CRel G B (c.toList.take cs.length) cs) {j : Nat} (hj : j < cs.length) : VRel G B (c.getD j undef) cs[j] ∧ (c.getD j undef).oneCell' = true := by
  simpa [Array.getD_eq_getD_getElem?, List.getD_eq_getElem?_getD, List.getElem?_take, hj] using hr.2 j hj
theorem snd_load' (h : Sim E σ a w G) {t : TypeId} {x : Operand} {v : AV} (hv : VRel G (lm σ) (a.eval x) v) {k : AV → TR} {Goal : List (Nat × AV) → Prop}
    (hk : ∀ v x', (Instr.loadAt t (a.eval x)).run E.P w = .ok v w → VRel G (lm σ) v x' → Snd E.P σ (k x') Goal) : Snd E.P σ (kLoad E.P t v k) Goal := by
  unfold kLoad
  split
  · rename_i b off
    obtain ⟨g, cs, ty, e, h1, h2, h3, hm⟩ := inv_loc hv
    refine .rd ?_
    rw [(lk_bc h2).2]
    obtain ⟨c, hc, hr, _, _, hfc⟩ := box_cells h h1 h2 h3 hm
    refine snd_ld (w := w) (G := G) (b := g) (base := 0) (f := fun j => c.getD j undef) (fun j hj => ?_) (fun j hj => ?_) (fun v x' hr => ?_)
    · have : j < c.size := Nat.lt_of_lt_of_le hj hfc
      simp [World.cell?, hc, this]
    · exact box_cell hr hj
    · rw [Nat.zero_add] at hr; rw [e] at hk; exact hk v x' hr
  · rename_i cs off
    obtain ⟨b, base, f, e, hz, hp⟩ := inv_rf hv
    exact snd_ld (w := w) (G := G) (f := f) (fun j hj => (h.st.agree _ _ _ (hz j hj)).1) (fun j hj => ⟨.p (hp j hj), (h.st.agree _ _ _ (hz j hj)).2⟩) fun v x' hr => by rw [e] at hk; exact hk v x' hr
  · rename_i b off ver
    obtain ⟨g, o', cs, v', e', sz, e, h1, h2, h3, h4⟩ := inv_lo hv
    refine .rdRow h1 fun cs2 v2 e2 sz2 wr hB2 _ => .need fun hvv => ?_
    rw [h2] at hB2; cases hB2
    obtain ⟨h5, rfl⟩ := h4 hvv
    obtain ⟨⟨c, hc, hsz, _, hle, _, hr⟩, _⟩ := row_cells h h2 h5
    refine snd_ld (w := w) (G := G) (b := g) (base := G.β b) (f := fun j => c.getD (G.β b + j) undef) (fun j hj => ?_) (fun j hj => hr j hj) (fun v x' hr => ?_)
    · have : G.β b + j < c.size := by omega
      simp [World.cell?, hc, this]
    · rw [e] at hk; exact hk v x' hr
  · exact .fail
theorem snd_load (h : Sim E σ a w G) {t : TypeId} {x : Operand} (ho : o.op = .load t x) : Snd E.P σ (rdo x fun v => kLoad E.P t v fun y => ret E.N o y) (Good E o σ a w) :=
  .rdo h fun v hv => snd_load' h hv fun v x' hr hx => snd_ret h (by simp only [execOp, ho, Sem.run_bind, hr]; rfl) hx
theorem snd_field (h : Sim E σ a w G) {s : TypeId} {x : Operand} {i : Nat} (ho : o.op = .field s x i) : Snd E.P σ (rdo x fun v => kField E.P E.N o s v i) (Good E o σ a w) :=
  .rdo h fun v hv => by
    unfold kField
    split
    · rename_i off ft cs hf
      obtain ⟨fs, hu, fl, h1, h2, h3⟩ := und_field hf
      obtain ⟨vs, e, hs, ho1, hp⟩ := inv_agg hv
      unfold kLd
      split
      · rename_i n hn ha
        refine .need fun hle => ?_
        obtain ⟨d, hud, hd⟩ := und_agg ha
        have hs' := run_szOf (P := E.P) (w := w) hn
        have hagg : (isAgg ft).run E.P w = .ok true w := by
          unfold isAgg
          rw [Sem.run_bind, run_underlying hud w]
          cases d <;> simp_all
        refine snd_ret h (v := .agg (vs.extract off (off + n))) ?_ (.agg _ _ (by simp [hs]; omega) (fun j hj => ?_) fun j hj => ?_)
        · simp [execOp, ho, e, Instr.field, run_underlying hu, h1, h2, h3, asAgg, part, hagg, hs']
        · have hj' : j < n := by simp at hj; omega
          have := ho1 (off + j) (by omega)
          have h4 : off + j < vs.size := by omega
          have h5 : j < min (off + n) vs.size - off := by omega
          simpa [Array.getD_eq_getD_getElem?, Array.getElem?_extract, h5, h4] using this
        · have hj' : j < n := by simp at hj; omega
          have := hp (off + j) (by omega)
          have h4 : off + j < vs.size := by omega
          have h5 : j < min (off + n) vs.size - off := by omega
          simpa [Array.getD_eq_getD_getElem?, Array.getElem?_extract, h5, h4] using this
      · rename_i n hn ha
        refine .need fun hlt => ?_
        obtain ⟨d, hud, hd⟩ := und_agg ha
        have hagg : (isAgg ft).run E.P w = .ok false w := by
          unfold isAgg
          rw [Sem.run_bind, run_underlying hud w]
          cases d <;> simp_all
        have := hp off hlt
        generalize hgv : vs.getD off undef = z at this
        have hg : vs[off]? = some z := by
          rw [← hgv, Array.getD_eq_getD_getElem?, Array.getElem?_eq_getElem (by omega)]; rfl
        refine snd_ret h (v := z) ?_ ?_
        · simp [execOp, ho, e, Instr.field, run_underlying hu, h1, h2, h3, asAgg, part, hagg, hg]
        · rw [List.getD_eq_getElem?_getD, List.getElem?_eq_getElem hlt]; exact this
      · exact .fail
    · exact .fail
end
end Go.Proofs.Ytjabaenpkimmjaa

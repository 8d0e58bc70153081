/- Cut: how great sums can be; what is told is sound. No program is in sight. -/
import Derived.Test.YtjabaenpkimmjaaCtM
namespace Go.Proofs.Ytjabaenpkimmjaa
set_option linter.unusedSimpArgs false
set_option linter.unusedVariables false
/-- Terms whose variables and coefficients are bounded. -/
def TmOk (b : Int) (m : Tm) : Prop := 0 ≤ m.1 ∧ m.1 < 1048576 ∧ -b ≤ m.2 ∧ m.2 ≤ b
theorem coefB_iff {k : Int} : coefB k = true ↔ -1073741824 ≤ k ∧ k ≤ 1073741824 := by unfold coefB; simp
theorem termsB_ok : ∀ (last : Int) (t : List Tm), termsB last t = true → ∀ m ∈ t, TmOk 1073741824 m ∧ m.2 ≠ 0 ∧ last < m.1
  | _, [], _ => fun m hm => absurd hm List.not_mem_nil
  | last, a :: r, h => fun m hm => by
    rw [termsB, Bool.and_eq_true] at h
    obtain ⟨h1, h2⟩ := h
    unfold termB varB coefB at h1
    simp only [Bool.and_eq_true, decide_eq_true_eq, Bool.not_eq_true', decide_eq_false_iff_not] at h1
    rcases List.mem_cons.1 hm with rfl | hm
    · exact ⟨⟨h1.1.1, h1.1.2, h1.2.1.1, h1.2.1.2⟩, h1.2.2.1, h1.2.2.2⟩
    · obtain ⟨a1, a2, a3⟩ := termsB_ok a.1 r h2 m hm
      exact ⟨a1, a2, by omega⟩
theorem linB_ok {l : Ln} (h : linB l = true) : (-1073741824 ≤ l.c ∧ l.c ≤ 1073741824) ∧ l.t.length ≤ 64 ∧ ∀ m ∈ l.t, TmOk 1073741824 m := by
  unfold linB at h
  simp only [Bool.and_eq_true, decide_eq_true_eq] at h
  exact ⟨coefB_iff.1 h.1, h.2.1, fun m hm => (termsB_ok _ _ h.2.2 m hm).1⟩
theorem sumT_le (b : Int) (hb : 0 ≤ b) : ∀ (ts : List Tm) (v : Int), (∀ m ∈ ts, TmOk b m) → -(ts.length * b) ≤ sumT ts v ∧ sumT ts v ≤ ts.length * b
  | [], v, _ => by simp [sumT]
  | m :: r, v, h => by
    obtain ⟨h1, h2, h3, h4⟩ := h m (by simp)
    have ih := sumT_le b hb r v fun x hx => h x (List.mem_cons_of_mem _ hx)
    rw [sumT, List.length_cons, Int.natCast_add, Int.add_mul]
    split <;> omega
theorem mul_bd {p k : Int} (hp1 : 1 ≤ p) (hp : p ≤ 4096) (h1 : -1073741824 ≤ k) (h2 : k ≤ 1073741824) : -4398046511104 ≤ p * k ∧ p * k ≤ 4398046511104 := by
  have a1 : p * k ≤ p * 1073741824 := Int.mul_le_mul_of_nonneg_left h2 (by omega)
  have a2 : p * (-1073741824) ≤ p * k := Int.mul_le_mul_of_nonneg_left h1 (by omega)
  omega
theorem timesT_ok {p : Int} (hp1 : 1 ≤ p) (hp : p ≤ 4096) {t : List Tm} (h : ∀ m ∈ t, TmOk 1073741824 m) : ∀ m ∈ timesT p t, TmOk 4398046511104 m := fun m hm => by
  obtain ⟨x, hx, rfl⟩ := List.mem_map.1 hm
  obtain ⟨h1, h2, h3, h4⟩ := h x hx
  obtain ⟨a1, a2⟩ := mul_bd hp1 hp h3 h4
  exact ⟨h1, h2, a1, a2⟩
/-- What is known of the parts that are together so far. -/
structure PrOk (n : Nat) (c : Int) (ts : List Tm) : Prop where
  c1 : -(n * 4398046511104) ≤ c
  c2 : c ≤ n * 4398046511104
  len : ts.length ≤ n * 64
  ok : ∀ m ∈ ts, TmOk 4398046511104 m
theorem prOk_nil : PrOk 0 0 [] := ⟨by decide, by decide, Nat.zero_le _, fun m hm => absurd hm List.not_mem_nil⟩
theorem PrOk.add {n : Nat} {c : Int} {ts : List Tm} (h : PrOk n c ts) {l : Ln} (hl : linB l = true) {p : Int} (hp1 : 1 ≤ p) (hp : p ≤ 4096) : PrOk (n + 1) (c + p * l.c) (ts ++ timesT p l.t) := by
  obtain ⟨⟨l1, l2⟩, l3, l4⟩ := linB_ok hl
  obtain ⟨a1, a2⟩ := mul_bd hp1 hp l1 l2
  obtain ⟨h1, h2, h3, h4⟩ := h
  refine ⟨by omega, by omega, ?_, fun m hm => ?_⟩
  · have : (timesT p l.t).length = l.t.length := List.length_map ..
    rw [List.length_append]; omega
  · rcases List.mem_append.1 hm with hm | hm
    · exact h4 m hm
    · exact timesT_ok hp1 hp l4 m hm
theorem partsN_ok {ls : List Ln} (hls : ∀ l ∈ ls, linB l = true) : ∀ (p : List Tm) (n : Nat) (c : Int) (ts : List Tm), PrOk n c ts → (partsN ls p c ts).1 = 0 → PrOk (n + p.length) (partsN ls p c ts).2.1 (partsN ls p c ts).2.2
  | [], n, c, ts, h, _ => h
  | p :: r, n, c, ts, h, e => by
    unfold partsN at e ⊢
    split at e
    · cases e
    rename_i h1
    split at e
    · cases e
    rename_i h2
    rw [if_neg h1, if_neg h2]
    have hlt : p.1.toNat < ls.length := by omega
    have hg : ls.getD p.1.toNat ⟨0, []⟩ = ls[p.1.toNat] := by rw [List.getD_eq_getElem?_getD, List.getElem?_eq_getElem hlt]; rfl
    rw [hg] at e ⊢
    have := partsN_ok hls r (n + 1) _ _ (h.add (hls _ (List.getElem_mem hlt)) (by omega) (by omega)) e
    rw [List.length_cons]
    rw [show n + (r.length + 1) = n + 1 + r.length by omega]
    exact this
theorem tdiv_ne {a b : Int} (h : a.tmod b = 0) (ha : a ≠ 0) : a.tdiv b ≠ 0 := fun e => by
  have := Int.mul_tdiv_add_tmod a b
  rw [h, e] at this
  simp at this
  exact ha this.symm
theorem outT_sorted (ts : List Tm) (div : Int) : ∀ (vs : List Int) (last : Int), SortedI vs → (∀ v ∈ vs, last < v ∧ 0 ≤ v ∧ v < 1048576) → anyRest ts div vs = false → (outT ts div vs).any (fun m => !coefB m.2) = false → termsB last (outT ts div vs) = true
  | [], _, _, _, _, _ => rfl
  | v :: r, last, hs, hv, hr, hc => by
    obtain ⟨h1, h2⟩ := List.pairwise_cons.1 hs
    unfold anyRest at hr
    rw [List.any_cons, Bool.or_eq_false_iff] at hr
    obtain ⟨q1, q2, q3⟩ := hv v (by simp)
    have hd : (sumT ts v).tmod div = 0 := by simpa using hr.1
    unfold outT at hc ⊢
    by_cases h0 : sumT ts v = 0
    · rw [if_pos h0] at hc ⊢
      exact outT_sorted ts div r last h2 (fun x hx => hv x (List.mem_cons_of_mem _ hx)) hr.2 hc
    · rw [if_neg h0] at hc ⊢
      rw [List.any_cons, Bool.or_eq_false_iff] at hc
      have ih := outT_sorted ts div r v h2 (fun x hx => ⟨h1 x hx, (hv x (List.mem_cons_of_mem _ hx)).2⟩) hr.2 hc.2
      have hk := tdiv_ne hd h0
      rw [termsB, ih, Bool.and_true]
      unfold termB varB
      simp only [Bool.and_eq_true, decide_eq_true_eq, Bool.not_eq_true', decide_eq_false_iff_not]
      exact ⟨⟨q2, q3⟩, by simpa using hc.1, hk, q1⟩
theorem dividedN_lin {c : Int} {ts : List Tm} {div : Int} {l : Ln} (hts : ∀ m ∈ ts, 0 ≤ m.1 ∧ m.1 < 1048576) (h : dividedN c ts div = (0, l)) : linB l = true := by
  unfold dividedN at h
  split at h
  · cases h
  split at h
  · cases h
  split at h
  · cases h
  rename_i hr
  split at h
  · cases h
  rename_i hc
  split at h
  · cases h
  rename_i hl
  cases h
  have hr' : anyRest ts div (varsT ts) = false := by simpa using hr
  rw [Bool.not_eq_true, Bool.or_eq_false_iff] at hc
  have h1 := outT_sorted ts div (varsT ts) (-1) (varsT_sorted ts) (fun v hv => by
    obtain ⟨m, hm, rfl⟩ := List.mem_map.1 ((varsT_mem ts v).1 hv)
    have := hts m hm
    omega) hr' hc.2
  unfold linB
  simp only [Bool.and_eq_true, decide_eq_true_eq]
  exact ⟨by simpa using hc.1, by omega, h1⟩
theorem stepN_lin {ls : List Ln} (hls : ∀ l ∈ ls, linB l = true) {s : Stp} (h : (stepN ls s).1 = 0) : linB (stepN ls s).2 = true := by
  unfold stepN at h ⊢
  split at h
  · cases h
  rename_i hl
  rw [if_neg hl]
  dsimp only at h ⊢
  split at h
  · rename_i h0
    rw [if_pos h0]
    have hp := partsN_ok hls s.parts 0 0 [] prOk_nil h0
    generalize partsN ls s.parts 0 [] = q at *
    have e2 : dividedN q.2.1 q.2.2 s.div = (0, (dividedN q.2.1 q.2.2 s.div).2) := by rw [← h]
    exact dividedN_lin (fun m hm => ⟨(hp.ok m hm).1, (hp.ok m hm).2.1⟩) e2
  · rename_i h0; exact absurd h h0
theorem firstBad_none : ∀ (ps : List Ln) (i : Nat), firstBad ps i = none → ∀ l ∈ ps, linB l = true
  | [], _, _ => fun l hl => absurd hl List.not_mem_nil
  | a :: r, i, h => fun l hl => by
    unfold firstBad at h
    split at h
    · rename_i ha
      rcases List.mem_cons.1 hl with rfl | hl
      · exact ha
      · exact firstBad_none r (i + 1) h l hl
    · cases h
/-- The code's look at a form, index by index, is the same. -/
theorem termsB_snoc : ∀ (t : List Tm) (last : Int) (m : Tm), termsB last (t ++ [m]) = (termsB last t && termB ((t.getLast?.map (·.1)).getD last) m)
  | [], last, m => by simp [termsB]
  | a :: r, last, m => by
    rw [List.cons_append, termsB, termsB, termsB_snoc r a.1 m, Bool.and_assoc]
    cases r with
    | nil => rfl
    | cons b s => rw [List.getLast?_cons_cons]; simp [List.getLast?_eq_some_getLast]
end Go.Proofs.Ytjabaenpkimmjaa

/- Cut: whatever makes all premises at most 0 makes all lines so. No program is in sight. -/
import Derived.Test.YtbcakdhgbjgkgaaCtM
namespace Go.Proofs.Ytbcakdhgbjgkgaa
set_option linter.unusedSimpArgs false
set_option linter.unusedVariables false
def valT (u : Int → Int) : List Tm → Int
  | [] => 0
  | m :: r => m.2 * u m.1 + valT u r
def valL (u : Int → Int) (l : Ln) : Int := l.c + valT u l.t
theorem valT_app (u : Int → Int) : ∀ a b : List Tm, valT u (a ++ b) = valT u a + valT u b
  | [], b => by simp [valT]
  | m :: r, b => by rw [List.cons_append, valT, valT, valT_app u r b]; omega
theorem valT_times (u : Int → Int) (p : Int) : ∀ t : List Tm, valT u (timesT p t) = p * valT u t
  | [] => by simp [timesT, valT]
  | m :: r => by
    have := valT_times u p r
    unfold timesT at *
    rw [List.map_cons, valT, valT, this, Int.mul_add, Int.mul_assoc]
def sumV (ts : List Tm) (u : Int → Int) : List Int → Int
  | [] => 0
  | v :: r => sumT ts v * u v + sumV ts u r
theorem sumV_nil (u : Int → Int) : ∀ vs : List Int, sumV [] u vs = 0
  | [] => rfl
  | v :: r => by rw [sumV, sumV_nil u r]; simp [sumT]
theorem sumV_not (m : Tm) (ts : List Tm) (u : Int → Int) : ∀ vs : List Int, m.1 ∉ vs → sumV (m :: ts) u vs = sumV ts u vs
  | [], _ => rfl
  | v :: r, h => by
    rw [List.mem_cons] at h
    rw [sumV, sumV, sumV_not m ts u r (fun e => h (.inr e)), sumT, if_neg (fun e => h (.inl e))]
    simp
theorem sumV_cons (m : Tm) (ts : List Tm) (u : Int → Int) : ∀ vs : List Int, vs.Nodup → m.1 ∈ vs → sumV (m :: ts) u vs = m.2 * u m.1 + sumV ts u vs
  | [], _, h => absurd h List.not_mem_nil
  | v :: r, hn, h => by
    obtain ⟨hv, hn⟩ := List.nodup_cons.1 hn
    by_cases e : m.1 = v
    · subst e
      rw [sumV, sumV, sumV_not m ts u r hv, sumT, if_pos rfl, Int.add_mul]; omega
    · have hr : m.1 ∈ r := (List.mem_cons.1 h).resolve_left e
      rw [sumV, sumV, sumV_cons m ts u r hn hr, sumT, if_neg e]
      simp; omega
theorem valT_sum (u : Int → Int) (vs : List Int) (hn : vs.Nodup) : ∀ ts : List Tm, (∀ m ∈ ts, m.1 ∈ vs) → valT u ts = sumV ts u vs
  | [], _ => (sumV_nil u vs).symm
  | m :: r, h => by rw [valT, valT_sum u vs hn r (fun x hx => h x (List.mem_cons_of_mem _ hx)), sumV_cons m r u vs hn (h m (by simp))]
/-- Where all is divided, the sum is the divisor times what was told. -/
theorem sumV_div (ts : List Tm) (u : Int → Int) (div : Int) : ∀ vs : List Int, anyRest ts div vs = false → sumV ts u vs = div * valT u (outT ts div vs)
  | [], _ => by simp [sumV, outT, valT]
  | v :: r, h => by
    unfold anyRest at h
    rw [List.any_cons, Bool.or_eq_false_iff] at h
    have ih := sumV_div ts u div r h.2
    have hd : (sumT ts v).tmod div = 0 := by simpa using h.1
    have he : div * (sumT ts v).tdiv div = sumT ts v := by
      have := Int.mul_tdiv_add_tmod (sumT ts v) div
      rw [hd] at this; omega
    rw [sumV, outT]
    split
    · rename_i h0; rw [h0, ih]; simp
    · rw [valT, ih, Int.mul_add, ← Int.mul_assoc, he]
theorem upZ_ge {a g : Int} (hg : 0 < g) : g * upZ a g < a + g := by
  have h1 := Int.mul_tdiv_add_tmod a g
  unfold upZ
  split
  · rename_i h
    rw [Int.mul_add]; omega
  · rename_i h
    have h2 := Int.tmod_lt_of_pos a hg
    have h3 : -g < a.tmod g := by
      have := Int.lt_tmod_of_pos a hg
      omega
    rw [Int.mul_add]; omega
theorem dividedN_val {c : Int} {ts : List Tm} {div : Int} {l : Ln} (h : dividedN c ts div = (0, l)) {u : Int → Int} (hv : c + valT u ts ≤ 0) : valL u l ≤ 0 := by
  unfold dividedN at h
  split at h
  · cases h
  rename_i hd
  split at h
  · cases h
  split at h
  · cases h
  rename_i hr
  split at h
  · cases h
  split at h
  · cases h
  cases h
  have hr' : anyRest ts div (varsT ts) = false := by simpa using hr
  have hs := valT_sum u (varsT ts) ((varsT_sorted ts).imp fun h => by omega) ts fun m hm => (varsT_mem ts _).2 (List.mem_map.2 ⟨m, hm, rfl⟩)
  rw [hs, sumV_div ts u div _ hr'] at hv
  have hg : 0 < div := by omega
  have hu := upZ_ge (a := c) hg
  unfold valL
  show upZ c div + valT u (outT ts div (varsT ts)) ≤ 0
  generalize valT u (outT ts div (varsT ts)) = V at *
  generalize upZ c div = q at *
  by_cases hle : q + V ≤ 0
  · exact hle
  · have h1 : div * 1 ≤ div * (q + V) := Int.mul_le_mul_of_nonneg_left (by omega) (by omega)
    rw [Int.mul_add] at h1
    omega
theorem partsN_val {ls : List Ln} {u : Int → Int} (hls : ∀ l ∈ ls, valL u l ≤ 0) : ∀ (p : List Tm) (c : Int) (ts : List Tm) (c' : Int) (ts' : List Tm), c + valT u ts ≤ 0 → partsN ls p c ts = (0, c', ts') → c' + valT u ts' ≤ 0
  | [], c, ts, c', ts', h, e => by cases e; exact h
  | p :: r, c, ts, c', ts', h, e => by
    unfold partsN at e
    split at e
    · cases e
    rename_i h1
    split at e
    · cases e
    rename_i h2
    refine partsN_val hls r _ _ c' ts' ?_ e
    have hlt : p.1.toNat < ls.length := by omega
    have hl := hls ls[p.1.toNat] (List.getElem_mem hlt)
    rw [List.getD_eq_getElem?_getD, List.getElem?_eq_getElem hlt]
    simp only [Option.getD_some]
    generalize ls[p.1.toNat] = l at *
    unfold valL at hl
    rw [valT_app, valT_times]
    have : p.2 * (l.c + valT u l.t) ≤ p.2 * 0 := Int.mul_le_mul_of_nonneg_left hl (by omega)
    rw [Int.mul_add] at this
    omega
theorem stepN_val {ls : List Ln} {u : Int → Int} (hls : ∀ l ∈ ls, valL u l ≤ 0) {s : Stp} (h : (stepN ls s).1 = 0) : valL u (stepN ls s).2 ≤ 0 := by
  unfold stepN at h ⊢
  split at h
  · cases h
  rename_i hl
  rw [if_neg hl]
  dsimp only at h ⊢
  split at h
  · rename_i h0
    rw [if_pos h0]
    have e : partsN ls s.parts 0 [] = (0, (partsN ls s.parts 0 []).2.1, (partsN ls s.parts 0 []).2.2) := by rw [← h0]
    have hv := partsN_val hls s.parts 0 [] _ _ (by simp [valT]) e
    generalize partsN ls s.parts 0 [] = q at *
    have e2 : dividedN q.2.1 q.2.2 s.div = (0, (dividedN q.2.1 q.2.2 s.div).2) := by rw [← h]
    exact dividedN_val e2 hv
  · rename_i h0; exact absurd h h0
theorem stepsN_val {u : Int → Int} : ∀ (ss : List Stp) (i : Nat) (ls : List Ln), (∀ l ∈ ls, valL u l ≤ 0) → (stepsN ss i ls).1 = 0 → ∀ l ∈ (stepsN ss i ls).2.2, valL u l ≤ 0
  | [], i, ls, h, _ => h
  | s :: r, i, ls, h, e => by
    unfold stepsN at e ⊢
    by_cases h0 : (stepN ls s).1 = 0
    · rw [if_pos h0] at e ⊢
      refine stepsN_val r (i + 1) _ (fun l hl => ?_) e
      rcases List.mem_append.1 hl with hl | hl
      · exact h l hl
      · rw [List.mem_singleton] at hl
        rw [hl]; exact stepN_val h h0
    · rw [if_neg h0] at e; exact absurd e h0
theorem linesN_val {u : Int → Int} {ps : List Ln} {ss : List Stp} (h : ∀ l ∈ ps, valL u l ≤ 0) (e : (linesN ps ss).1 = 0) : ∀ l ∈ (linesN ps ss).2.2, valL u l ≤ 0 := by
  unfold linesN at e ⊢
  split at e
  · cases e
  rename_i hl
  rw [if_neg hl]
  split at e
  · cases e
  · rename_i hb
    exact stepsN_val ss 0 ps h e
/-- Premises that are all at most 0 by some values aren't refuted. -/
theorem refutesN_val {u : Int → Int} {ps : List Ln} {ss : List Stp} (h : ∀ l ∈ ps, valL u l ≤ 0) (e : (linesN ps ss).1 = 0) : refutesN ps ss = (8, -1) := by
  have hv := linesN_val h e
  unfold refutesN
  dsimp only
  rw [if_pos e, if_neg]
  intro ha
  obtain ⟨l, hl, hc⟩ := List.any_eq_true.1 ha
  have := hv l hl
  simp only [Bool.and_eq_true, decide_eq_true_eq, List.isEmpty_iff] at hc
  unfold valL at this
  rw [hc.1] at this
  simp [valT] at this
  omega
end Go.Proofs.Ytbcakdhgbjgkgaa

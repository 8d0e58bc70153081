/- Sorted, each once: what Compact makes of a sorted row. No program is in sight. -/
import Derived.Test.YtbcakdhgbjgkgaaFvF
import Derived.Lib.SlicesCompact
namespace Go.Proofs.Ytbcakdhgbjgkgaa
set_option linter.unusedSimpArgs false
set_option linter.unusedVariables false
theorem srtI_le (l : List Int) : (srtI l).Pairwise fun a b => a ≤ b := by
  have h1 : (srtI l).Pairwise (fun x y => decide (x ≤ y) = true) := List.pairwise_mergeSort (le := fun x y => decide (x ≤ y)) (by intro a b c; simp; omega) (by intro a b; simp; omega) l
  exact h1.imp fun h => by simpa using h
theorem comp_sorted (s : List Int) (hs : s.Pairwise fun a b => a ≤ b) : SortedI (Lib.compact s) := by
  rw [List.pairwise_iff_getElem] at hs
  have hle : ∀ i j, i ≤ j → j < s.length → s.toArray[i]! ≤ s.toArray[j]! := fun i j hij hj => by
    have e1 : s.toArray[i]! = s[i] := by simp [show i < s.length by omega]
    have e2 : s.toArray[j]! = s[j] := by simp [hj]
    rw [e1, e2]
    by_cases h : i = j
    · subst h; exact Int.le_refl _
    · exact hs i j (by omega) hj (by omega)
  unfold Lib.compact Lib.compactUpTo
  show List.Pairwise _ _
  rw [List.pairwise_map]
  refine (List.pairwise_lt_range.filter _).imp_of_mem fun {i j} hi hj hij => ?_
  obtain ⟨hj1, hj2⟩ := List.mem_filter.1 hj
  have hjn := List.mem_range.1 hj1
  unfold Lib.keeps at hj2
  simp only [decide_eq_true_eq] at hj2
  have h1 := hle i (j - 1) (by omega) (by omega)
  have h2 := hle (j - 1) j (by omega) hjn
  rcases hj2 with h3 | h3
  · omega
  · omega
theorem comp_mem (s : List Int) (x : Int) : x ∈ Lib.compact s ↔ x ∈ s := by
  unfold Lib.compact Lib.compactUpTo
  constructor
  · intro h
    obtain ⟨i, hi, rfl⟩ := List.mem_map.1 h
    have hin := List.mem_range.1 (List.mem_filter.1 hi).1
    have e1 : s.toArray[i]! = s[i] := by simp [hin]
    rw [e1]; exact List.getElem_mem hin
  · intro h
    obtain ⟨i, hi, rfl⟩ := List.getElem_of_mem h
    have key : ∀ i (hi : i < s.length), s[i] ∈ ((List.range s.length).filter (Lib.keeps s.toArray)).map (s.toArray[·]!) := fun i => by
      induction i with
      | zero =>
        intro hi
        refine List.mem_map.2 ⟨0, List.mem_filter.2 ⟨List.mem_range.2 hi, Lib.keeps_lt_one _ 0 (by decide)⟩, by simp [hi]⟩
      | succ i ih =>
        intro hi
        by_cases hk : Lib.keeps s.toArray (i + 1) = true
        · exact List.mem_map.2 ⟨i + 1, List.mem_filter.2 ⟨List.mem_range.2 hi, hk⟩, by simp [hi]⟩
        · have h2 := ih (by omega)
          have e : s[i + 1] = s[i] := by
            unfold Lib.keeps at hk
            simp only [decide_eq_true_eq, not_or, Classical.not_not] at hk
            have h3 := hk.2
            have a1 : s.toArray[i + 1]! = s[i + 1] := by simp [hi]
            have a2 : s.toArray[i + 1 - 1]! = s[i] := by simp [show i < s.length by omega]
            rw [a1, a2] at h3; exact h3
          rw [e]; exact h2
    exact key i hi
theorem comp_vs (l : List Int) : Lib.compact (srtI l) = varsT (tsF l) :=
  sorted_unique (comp_sorted _ (srtI_le l)) (varsT_sorted _) fun x => by
    rw [comp_mem, srtI_mem, varsT_mem]
    unfold tsF
    rw [List.map_map]
    simp
end Go.Proofs.Ytbcakdhgbjgkgaa

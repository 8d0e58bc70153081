/- FormOwn: the walk. -/
import Derived.Test.YtdieipdbkpcgmaaRefG
import Derived.Test.YtdieipdbkpcgmaaUp
import Derived.Test.YtdieipdbkpcgmaaFormChecks
namespace Go.Proofs.Ytdieipdbkpcgmaa
set_option linter.unusedSimpArgs false
set_option linter.unusedVariables false
open Go.RowKit

/-! The value hangs on the variables alone. -/
theorem valAt_set {vals : List Int} {k : Nat} {x v : Int} (h0 : 0 ≤ v) (hne : ¬ v = k) : valAt (vals.set k x) v = valAt vals v := by
  unfold valAt
  rw [List.length_set]
  split
  · simp only [List.getD, List.getElem?_set]
    rw [if_neg (by omega)]
  · rfl
theorem dot_congr {v1 v2 : List Int} {T : List Mono} (h : ∀ m ∈ T, valAt v1 m.V = valAt v2 m.V) : dot v1 T = dot v2 T := by
  induction T with
  | nil => rfl
  | cons m T ih => simp only [dot]; rw [h m (by simp), ih (fun m hm => h m (by simp [hm]))]
theorem any_congr {α : Type} {p q : α → Bool} {l : List α} (h : ∀ x ∈ l, p x = q x) : l.any p = l.any q := by
  induction l with
  | nil => rfl
  | cons m T ih => simp only [List.any_cons]; rw [h m (by simp), ih (fun m hm => h m (by simp [hm]))]
theorem linVal_congr {v1 v2 : List Int} {L : Lin} (h : ∀ m ∈ L.T, valAt v1 m.V = valAt v2 m.V) : linVal L v1 = linVal L v2 := by
  have e : anyFar v1 L.T = anyFar v2 L.T := any_congr fun m hm => by rw [h m hm]
  simp only [linVal, e, dot_congr h]
theorem farF_congr {v1 v2 : List Int} {F : Form} (h : ∀ v ∈ vars F, valAt v1 v = valAt v2 v) : farF v1 F = farF v2 F := any_congr fun v hv => by rw [h v hv]
mutual
theorem truth_congr {v1 v2 : List Int} : ∀ F : Form, (∀ v ∈ vars F, valAt v1 v = valAt v2 v) → truth v1 F = truth v2 F
  | ⟨K, L, ks⟩, h => by
    have h' := h
    simp only [vars, List.mem_append] at h
    have hL := linVal_congr (L := L) (v1 := v1) (v2 := v2) fun m hm => h m.V (.inl (List.mem_map.2 ⟨m, hm, rfl⟩))
    have hk := truths_congr ks fun v hv => h v (.inr hv)
    simp only [truth, hL, hk.1, hk.2]
theorem truths_congr {v1 v2 : List Int} : ∀ ks : List Form, (∀ v ∈ varss ks, valAt v1 v = valAt v2 v) → truthAll v1 ks = truthAll v2 ks ∧ truthAny v1 ks = truthAny v2 ks
  | [], _ => ⟨rfl, rfl⟩
  | k :: ks, h => by
    simp only [varss, List.mem_append] at h
    have h1 := truth_congr k fun v hv => h v (.inl hv)
    have h2 := truths_congr ks fun v hv => h v (.inr hv)
    simp only [truthAll, truthAny, h1, h2.1, h2.2]
    exact ⟨trivial, trivial⟩
end
theorem own_value {F : Form} {vals : List Int} {k : Nat} {x : Int} (h0 : fvErr F vals = 0) (hn : anyV (fun u => u == (k : Int)) F = false) : fvErr F (vals.set k x) = 0 ∧ fvB F (vals.set k x) = fvB F vals := by
  have he : formErr F = 0 := by
    unfold fvErr at h0; split at h0
    · assumption
    · exact h0
  have hv : ∀ v ∈ vars F, valAt (vals.set k x) v = valAt vals v := fun v hv => by
    have h1 := ((vars_fine F (fe_parts he).2.2).2 v hv).1
    simp only [anyV, List.any_eq_false] at hn
    have := hn v hv
    exact valAt_set h1 (by simpa using this)
  have hf := farF_congr hv
  have ht := truth_congr F hv
  simp only [fvErr, fvB, hf, ht]
  unfold fvErr at h0
  first | exact ⟨h0, trivial⟩ | exact ⟨h0, rfl⟩ | exact h0

theorem own_some {w : World} {B e s n : Nat} {v : Value} {xs : List Value} (h : w.ownsRow B e s v n xs) (hn : 0 < n) : ∃ g cap, v = .slice (some ⟨g, 0, none⟩) n cap ∧ B ≤ g := by
  rcases h.2 with ⟨_, h0⟩ | ⟨g, cap, cur, rfl, hb, _⟩
  · omega
  · exact ⟨g, cap, rfl, hb⟩
theorem set_ints (l : List Int) (k : Nat) (x : Int) : (l.map intV).set k (.int .i64 x) = (l.set k x).map intV := by
  rw [List.map_set]; rfl
theorem ints_row {W : World} {B : Nat} {v : Value} {l : List Int} (h : W.ownsRow B 3 1 v l.length (l.map intV)) (h64 : ∀ z ∈ l, I64 z) (hl : l.length ≤ 140737488351232) : IsInts W v l := by
  rw [map_flat] at h
  refine sliceOf_own (by decide) h (by simp) (fun i hi h' => ?_) hl
  simp only [List.getElem_map]
  exact ⟨⟨rfl, h64 _ (List.getElem_mem hi)⟩, rfl⟩

theorem flat_ints {l : List Int} {xs : List (List Value)} (h1 : xs.length = l.length) (h : ∀ i (h : i < l.length) (h' : i < xs.length), IsInt l[i] xs[i] ∧ xs[i].length = 1) : xs.flatten = l.map intV := by
  rw [map_flat]
  congr 1
  apply List.ext_getElem
  · simp [h1]
  · intro i hi hi'
    rw [(h i (by omega) hi).1.1]; simp [intV]
theorem own_plain {W : World} {B m : Nat} {v : Value} {xs : List Value} (h : W.ownsRow B 3 1 v (0 + m) (#[].toList ++ xs)) : W.ownsRow B 3 1 v m xs := by simpa using h
theorem own_cell {W : World} {B g cp k : Nat} {l : List Int} (h : W.ownsRow B 3 1 (.slice (some ⟨g, 0, none⟩) l.length cp) l.length (l.map intV)) (hk : k < l.length) : W.cell? ⟨g, k, none⟩ = some (.int .i64 l[k]) := by
  rw [h.cellAt k (by omega)]; simp [hk, intV]

set_option maxRecDepth 100000 in
set_option maxHeartbeats 8000000 in
theorem formOwn_walk {n : Nat} {F : Form} {cs : List Value} {vV : Value} {vals : List Int} {a x : Int} {w : World} (h : IsForm w n F cs) (hv : IsInts w vV vals) (hl8 : vals.length * 8 ≤ 140737488351232) (_ha : I64 a) (hx64 : I64 x) :
    Calls Try.prog 5 #[.agg cs.toArray, vV, .int .i64 a, .int .i64 x] w fun e w' => e = .returned (.bool true) ∧ ∃ x, w' = ext w x := by
  have Hsm := Lib.hid (fun W (g : Below w.heap.size w W) => small_any (h.mono g))
  have Hc := Lib.hid (fun W (g : Below w.heap.size w W) => formValue_any (h.mono g) (hv.mono g))
  have Hc2 := Lib.hid (fun W vV2 vals2 (g : Below w.heap.size w W) hv2 => formValue_any (vV := vV2) (vals := vals2) (h.mono g) hv2)
  have Hh := Lib.hid (fun W (g : Below w.heap.size w W) v => rHas_any n F cs v W (h.mono g))
  have Hsrc := Lib.hid (fun W (g : Below w.heap.size w W) => src_sliceOf (hv.mono g) (fun y cs hy u hu => by obtain ⟨rfl, _⟩ := hy; simp at hu; subst hu; rfl))
  have Hv64 := Lib.hid (fun z (hz : z ∈ vals) => ints_64 hv hz)
  obtain ⟨a1, c1, a2, c2, rfl⟩ := form_cells h
  obtain ⟨aV, capV, rfl, hlV, _⟩ := int_at hv
  clear hv
  unfold FVPost at Hc
  by_cases h0 : fvErr F vals = 0
  · have HE := Lib.hid h0
    rw [h0, errV_zero] at Hc
    clear h0
    obtain ⟨t0, ht0⟩ : ∃ t0, t0 = fvB F vals := ⟨_, rfl⟩
    rw [← ht0] at Hc
    have Ht0 := Lib.hid ht0
    clear ht0
    go_enter Try.func5, Try.ntmps5
    go_wp2_with (first | (go_at_call 9; refine (up_any _).mono ?_; rintro e w' ⟨rfl, y, rfl⟩) | fail)
    refine (Hsm.out _ (by repeat (first | exact grew_refl _ | (with_reducible assumption) | refine grew_alloc ?_ _ | refine grew_ext ?_ _ | refine grew_drew ?_ | refine grew_drewN ?_ _))).mono ?_
    rintro e w' ⟨t1, rfl, y1, rfl⟩
    cases t1
    · go_wp2_with (first | (go_at_call 12; refine (Hc.out _ (by repeat (first | exact grew_refl _ | (with_reducible assumption) | refine grew_alloc ?_ _ | refine grew_ext ?_ _ | refine grew_drew ?_ | refine grew_drewN ?_ _))).mono ?_; rintro e w' ⟨rfl, y2, rfl⟩))
      go_ret
      exact ⟨rfl, ext_intro (by repeat (first | exact grew_refl _ | (with_reducible assumption) | refine grew_alloc ?_ _ | refine grew_ext ?_ _ | refine grew_drew ?_ | refine grew_drewN ?_ _))⟩
    · by_cases hin : 0 ≤ a ∧ a < vals.length
      · obtain ⟨hin1, hin2⟩ := hin
        obtain ⟨k, rfl⟩ : ∃ k : Nat, a = k := ⟨a.toNat, by omega⟩
        have hk : k < vals.length := by omega
        clear hin2
        go_wp2_with (first | (go_at_call 12; refine (Hc.out _ (by repeat (first | exact grew_refl _ | (with_reducible assumption) | refine grew_alloc ?_ _ | refine grew_ext ?_ _ | refine grew_drew ?_ | refine grew_drewN ?_ _))).mono ?_; rintro e w' ⟨rfl, y2, rfl⟩))
        have Hown := Lib.hid (own_value (F := F) (vals := vals) (k := k) (x := x) HE.out)
        have Hh := Lib.hid (fun W g => Hh.out W g (k : Int))
        generalize anyV (fun u => u == (k : Int)) F = th at *
        refine (Hh.out _ (by repeat (first | exact grew_refl _ | (with_reducible assumption) | refine grew_alloc ?_ _ | refine grew_ext ?_ _ | refine grew_drew ?_ | refine grew_drewN ?_ _))).mono ?_
        rintro e w' ⟨rfl, y3, rfl⟩
        cases th
        · have HownF : fvErr F (vals.set k x) = 0 ∧ fvB F (vals.set k x) = fvB F vals := Hown.out (by first | rfl | trivial)
          have HownG := Lib.hid HownF
          clear HownF
          have hgW : Below w.heap.size w (ext (ext (ext (ext (w.alloc (.cells #[.int .i64 F.K, .int .i64 F.L.C, .slice a1 F.L.T.length c1, .slice a2 F.kids.length c2] 31)) y) y1) y2) y3) := (by repeat (first | exact grew_refl _ | (with_reducible assumption) | refine grew_alloc ?_ _ | refine grew_ext ?_ _ | refine grew_drew ?_ | refine grew_drewN ?_ _))
          generalize hW0 : ext (ext (ext (ext (w.alloc (.cells #[.int .i64 F.K, .int .i64 F.L.C, .slice a1 F.L.T.length c1, .slice a2 F.kids.length c2] 31)) y) y1) y2) y3 = W0 at hgW ⊢
          have hbo : Old W0 w.heap.size := by rw [← hW0]; simp
          have hbo2 : w.heap.size < W0.heap.size := hbo
          have hb0 : W0.cell? ⟨w.heap.size, 0, none⟩ = some (.int .i64 F.K) := by rw [← hW0]; clear hW0; go_simp
          have hb1 : W0.cell? ⟨w.heap.size, 1, none⟩ = some (.int .i64 F.L.C) := by rw [← hW0]; clear hW0; go_simp
          have hb2 : W0.cell? ⟨w.heap.size, 2, none⟩ = some (.slice a1 F.L.T.length c1) := by rw [← hW0]; clear hW0; go_simp
          have hb3 : W0.cell? ⟨w.heap.size, 3, none⟩ = some (.slice a2 F.kids.length c2) := by rw [← hW0]; clear hW0; go_simp
          clear hW0
          obtain ⟨xs, hsrc, hxl, hxR⟩ := Hsrc.out (W0.alloc (.cells #[] 3)) (grew_alloc hgW _)
          rw [flat_ints hxl hxR] at hsrc
          clear hxl hxR
          go_wp2_with (at_builtin; refine app_int (W0 := W0) rfl _ _ rfl (World.ownsRow_lit (e := 3) (size := 1) (base := W0.heap.size) W0 #[] 0 (Nat.le_refl _) (by decide) (by decide)) rfl (grew_alloc (grew_refl _) _) hsrc rfl (by omega) ?_; intro v' y4 hown' hgb; clear hgb; have hown2 := own_plain hown'; clear hown'; obtain ⟨g, cp, rfl, hg⟩ := own_some hown2 (by omega); have hck := own_cell hown2 hk; have hfk := hown2.frozenAt k; have hne : ¬ w.heap.size = g := by omega)
          have hst := (hown2.stored k (.int .i64 x)).1
          rw [set_ints] at hst
          have hbel := (grew_ext hgW y4).setCell (p := ⟨g, k, none⟩) (show w.heap.size ≤ g by omega) (.int .i64 x)
          have hint := ints_row (l := vals.set k x) (by simpa using hst) (fun z hz => by rcases List.mem_or_eq_of_mem_set hz with hz | rfl; exact Hv64.out z hz; exact hx64) (by simp; omega)
          refine (Hc2.out _ _ (vals.set k x) hbel hint).mono ?_
          rintro e w' ⟨he, y5, rfl⟩
          rw [HownG.out.1, HownG.out.2, errV_zero, ← Ht0.out] at he
          subst he
          clear hst hint hck hfk hown2
          cases t0
          all_goals
            go_wp2_with fail
            go_ret
            exact ⟨rfl, ext_intro (grew_ext hbel _)⟩
        · go_wp2_with fail
          go_ret
          exact ⟨rfl, ext_intro (by repeat (first | exact grew_refl _ | (with_reducible assumption) | refine grew_alloc ?_ _ | refine grew_ext ?_ _ | refine grew_drew ?_ | refine grew_drewN ?_ _))⟩
      · go_wp2_with (first | (go_at_call 12; refine (Hc.out _ (by repeat (first | exact grew_refl _ | (with_reducible assumption) | refine grew_alloc ?_ _ | refine grew_ext ?_ _ | refine grew_drew ?_ | refine grew_drewN ?_ _))).mono ?_; rintro e w' ⟨rfl, y2, rfl⟩))
        all_goals go_ret
        all_goals exact ⟨rfl, ext_intro (by repeat (first | exact grew_refl _ | (with_reducible assumption) | refine grew_alloc ?_ _ | refine grew_ext ?_ _ | refine grew_drew ?_ | refine grew_drewN ?_ _))⟩
  · rw [errV_pos h0] at Hc
    generalize fvB F vals = t0 at *
    generalize fvErr F vals = m at *
    go_enter Try.func5, Try.ntmps5
    go_wp2_with (first | (go_at_call 9; refine (up_any _).mono ?_; rintro e w' ⟨rfl, y, rfl⟩) | fail)
    refine (Hsm.out _ (by repeat (first | exact grew_refl _ | (with_reducible assumption) | refine grew_alloc ?_ _ | refine grew_ext ?_ _ | refine grew_drew ?_ | refine grew_drewN ?_ _))).mono ?_
    rintro e w' ⟨t1, rfl, y1, rfl⟩
    cases t1
    all_goals
      go_wp2_with (first | (go_at_call 12; refine (Hc.out _ (by repeat (first | exact grew_refl _ | (with_reducible assumption) | refine grew_alloc ?_ _ | refine grew_ext ?_ _ | refine grew_drew ?_ | refine grew_drewN ?_ _))).mono ?_; rintro e w' ⟨rfl, y2, rfl⟩))
      go_ret
      exact ⟨rfl, ext_intro (by repeat (first | exact grew_refl _ | (with_reducible assumption) | refine grew_alloc ?_ _ | refine grew_ext ?_ _ | refine grew_drew ?_ | refine grew_drewN ?_ _))⟩
where
  ints_64 {w : World} {v : Value} {l : List Int} (h : IsInts w v l) {z : Int} (hz : z ∈ l) : I64 z := by
    obtain ⟨a, cap, _, _, _, hc⟩ := h
    obtain ⟨i, hi, rfl⟩ := List.getElem_of_mem hz
    obtain ⟨_, _, cs, _, _, hr, _⟩ := hc i hi
    exact hr.2
end Go.Proofs.Ytdieipdbkpcgmaa

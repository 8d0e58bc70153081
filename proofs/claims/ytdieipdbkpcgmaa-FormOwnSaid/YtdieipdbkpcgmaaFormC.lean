/- Layer 2: the variables of a formula, gathered. -/
import Derived.Test.YtdieipdbkpcgmaaFormB
import Derived.Test.YtdieipdbkpcgmaaTypes
namespace Go.Proofs.Ytdieipdbkpcgmaa
set_option linter.unusedSimpArgs false
set_option linter.unusedVariables false
open Go.RowKit

mutual
def vars : Form → List Int
  | ⟨_, L, ks⟩ => L.T.map (·.V) ++ varss ks
def varss : List Form → List Int
  | [] => []
  | k :: ks => vars k ++ varss ks
end
def intV (z : Int) : Value := .int .i64 z
theorem vars_eq (F : Form) : vars F = F.L.T.map (·.V) ++ varss F.kids := by cases F; rfl
theorem varss_take_succ {ks : List Form} {k : Nat} (h : k < ks.length) : varss (ks.take (k + 1)) = varss (ks.take k) ++ vars ks[k] := by
  induction ks generalizing k with
  | nil => simp at h
  | cons x ks ih =>
    cases k with
    | zero => simp [varss]
    | succ k => simp only [List.take_succ_cons, varss, List.getElem_cons_succ]; rw [ih (by simpa using h), List.append_assoc]
theorem varss_take_le {ks : List Form} (k : Nat) : (varss (ks.take k)).length ≤ (varss ks).length := by
  induction ks generalizing k with
  | nil => simp [varss]
  | cons x ks ih =>
    cases k with
    | zero => simp [varss]
    | succ k => simp only [List.take_succ_cons, varss, List.length_append]; have := ih k; omega

/-- A fresh row of numbers. -/
def OwnInts (w0 w : World) (v : Value) (l : List Int) : Prop := w.ownsRow w0.heap.size 3 1 v l.length (l.map intV)
def GatherPost (l : List Int) (w : World) (e : Ending) (w' : World) : Prop := ∃ v x, e = .returned v ∧ w' = ext w x ∧ OwnInts w w' v l

theorem own_succ {W W' : World} {B : Nat} {v : Value} {T : List Mono} {k : Nat} (h : k < T.length) (hown : W'.ownsRow B 3 1 v (k + 1) (((T.take k).map (intV ·.V)) ++ [.int .i64 T[k].V])) :
    W'.ownsRow B 3 1 v (k + 1) ((T.take (k + 1)).map (intV ·.V)) := by
  rw [List.take_succ_eq_append_getElem h, List.map_append]; exact hown

theorem own_kid {W W' : World} {B : Nat} {v : Value} {F : Form} {k : Nat} (h : k < F.kids.length)
    (hown : W'.ownsRow B 3 1 v (F.L.T.length + (varss (F.kids.take k)).length + (vars F.kids[k]).length) (F.L.T.map (intV ·.V) ++ (varss (F.kids.take k)).map intV ++ (vars F.kids[k]).map intV)) :
    W'.ownsRow B 3 1 v (F.L.T.length + (varss (F.kids.take (k + 1))).length) (F.L.T.map (intV ·.V) ++ (varss (F.kids.take (k + 1))).map intV) := by
  rw [varss_take_succ h, List.map_append, List.length_append, ← List.append_assoc, ← Nat.add_assoc]; exact hown
theorem kid_vars {F : Form} {k : Nat} (h : k < F.kids.length) (hl : (vars F).length ≤ 1000000000) : F.L.T.length + (varss (F.kids.take k)).length + (vars F.kids[k]).length ≤ 1000000000 := by
  have h1 := varss_take_succ h
  have h2 := varss_take_le (ks := F.kids) (k + 1)
  rw [h1, List.length_append] at h2
  rw [vars_eq, List.length_append, List.length_map] at hl
  omega
theorem own_fin {w W0 W : World} {v : Value} {F : Form} (hg : Below w.heap.size w W0)
    (hown : W.ownsRow W0.heap.size 3 1 v (F.L.T.length + (varss F.kids).length) (F.L.T.map (intV ·.V) ++ (varss F.kids).map intV)) : OwnInts w W v (vars F) := by
  have h := own_base hown hg.size
  unfold OwnInts
  rw [vars_eq, List.length_append, List.map_append, List.length_map, List.map_map]
  exact h

set_option maxRecDepth 100000 in
set_option maxHeartbeats 1000000 in
theorem gather_any : ∀ (n : Nat) (F : Form) (cs : List Value) (w : World), IsForm w n F cs → (vars F).length ≤ 1000000000 →
    Calls Try.prog 27 #[.agg cs.toArray] w (GatherPost (vars F) w)
  | 0, F, cs, w, h, _ => h.elim
  | n + 1, F, cs, w, h, hlen => by
    have ih := Lib.hid (gather_any n)
    obtain ⟨hK, vT, vK, rfl, ⟨hC, aT, capT, rfl, hlT, hcapT, hcT⟩, a, cap, rfl, hl, hcap, hc⟩ := h
    have hlen1 : F.L.T.length ≤ 1000000000 := by rw [vars_eq] at hlen; simp at hlen; omega
    have Hlen := Lib.hid hlen; clear hlen
    go_enter Try.func27, Try.ntmps27
    go_wp2_with fail
    generalize hW0 : w.alloc _ = W0
    have hg0 : Below w.heap.size w W0 := hW0 ▸ grew_alloc (grew_refl _) _
    have hbo : Old W0 w.heap.size := by rw [← hW0]; exact Nat.lt_of_lt_of_eq (Nat.lt_succ_self _) (World.size_alloc w _).symm
    have hbx := fun i => (congrArg (fun W => World.cell? W ⟨w.heap.size, i, none⟩) hW0).symm.trans (World.cell?_alloc_new w _ _ i)
    clear hW0
    have HcT := Lib.hid hcT
    have Hc := Lib.hid hc
    clear hc hcT
    go_loopw [3, 12] (fun v i wr => ∃ (k : Nat) (x : World), k ≤ F.L.T.length ∧ i = .int .i64 k ∧ wr = ext W0 x ∧ wr.ownsRow W0.heap.size 3 1 v k ((F.L.T.take k).map (intV ·.V))) (fun _ i _ => F.L.T.length - (intOf i).toNat)
    case atStart => exact ⟨0, _, by omega, rfl, (ext_of (grew_refl _)).symm, by simpa using World.ownsRow_nil _ _ _ _⟩
    case round =>
      obtain ⟨k, x, hk, rfl, rfl, hown⟩ := hrel
      by_cases hlt : k < F.L.T.length
      · obtain ⟨b, o, cs, rfl, hb, ⟨rfl, hV, hK'⟩, _, hcell⟩ := HcT.out k hlt
        have hc0 := (hg0.cell (p := ⟨b, _, none⟩) hb).trans (hcell 0 (by simp))
        have hc1 := (hg0.cell (p := ⟨b, _, none⟩) hb).trans (hcell 1 (by simp))
        have hb := old_of_grew hg0 hb
        have Hst := Lib.hid (fun (W' : World) B v => own_succ (W := w) (W' := W') (B := B) (v := v) hlt)
        generalize F.L.T[k] = m at *
        simp only [Nat.add_zero, List.getElem_cons_zero, List.getElem_cons_succ] at hc0 hc1
        clear hcell
        go_wp2_with (at_builtin; go_loud (refine app_int (W0 := W0) rfl _ _ rfl ((hown.alloc _).alloc _) rfl (by repeat (first | exact grew_refl _ | (with_reducible assumption) | refine grew_alloc ?_ _ | refine grew_ext ?_ _ | refine grew_drew ?_ | refine grew_drewN ?_ _)) (src_one (u := .int .i64 m.V) rfl (by go_simp)) rfl (by omega) ?_); intro v' y hown' hgb)
        have Hown' := Lib.hid (Hst.out _ _ _ hown')
        clear hown hown' hgb
        go_wp2_with fail
        go_roundw
        case rel => exact ⟨k + 1, _, by omega, by go_num, rfl, Hown'.out⟩
        case measure => simp [intOf]; omega
      · obtain rfl : k = F.L.T.length := by omega
        go_wp2_with fail
        rw [List.take_length] at hown
        go_loopw [3, 25] (fun v i wr => ∃ (k : Nat) (x : World), k ≤ F.kids.length ∧ i = .int .i64 k ∧ wr = ext W0 x ∧ wr.ownsRow W0.heap.size 3 1 v (F.L.T.length + (varss (F.kids.take k)).length) (F.L.T.map (intV ·.V) ++ (varss (F.kids.take k)).map intV)) (fun _ i _ => F.kids.length - (intOf i).toNat)
        case atStart => exact ⟨0, _, by omega, rfl, rfl, by simpa [varss] using hown⟩
        case round =>
          clear hown
          obtain ⟨k, x, hk, rfl, rfl, hown⟩ := hrel
          by_cases hlt : k < F.kids.length
          · obtain ⟨b, o, cs, rfl, hb, hF, hsz, hcell⟩ := Hc.out k hlt
            have hc0 := (hg0.cell (p := ⟨b, _, none⟩) hb).trans (hcell 0 (by omega))
            have hc1 := (hg0.cell (p := ⟨b, _, none⟩) hb).trans (hcell 1 (by omega))
            have hc2 := (hg0.cell (p := ⟨b, _, none⟩) hb).trans (hcell 2 (by omega))
            have hc3 := (hg0.cell (p := ⟨b, _, none⟩) hb).trans (hcell 3 (by omega))
            have hb := old_of_grew hg0 hb
            have Hst := Lib.hid (fun (W' : World) B v => own_kid (W := w) (F := F) (W' := W') (B := B) (v := v) hlt)
            have hl1 := kid_vars hlt Hlen.out
            have Hcall := Lib.hid (fun W g => ih.out F.kids[k] cs W (hF.mono g) (by omega))
            generalize F.kids[k] = G at *
            obtain ⟨a1, c1, a2, c2, rfl⟩ := form_cells hF
            simp only [Nat.add_zero, List.getElem_cons_zero, List.getElem_cons_succ] at hc0 hc1 hc2 hc3
            clear hcell
            go_wp2_with fail
            refine (Hcall.out _ (by repeat (first | exact grew_refl _ | (with_reducible assumption) | refine grew_alloc ?_ _ | refine grew_ext ?_ _ | refine grew_drew ?_ | refine grew_drewN ?_ _))).mono ?_
            rintro e w' ⟨v2, y, rfl, rfl, hown2⟩
            have hown3 := own_ext (own_alloc hown (.cells #[.int .i64 G.K, .int .i64 G.L.C, .slice a1 G.L.T.length c1, .slice a2 G.kids.length c2] 31)) y
            go_wp2_with (at_builtin; refine app_int (W0 := W0) rfl _ _ rfl hown3 rfl (by repeat (first | exact grew_refl _ | (with_reducible assumption) | refine grew_alloc ?_ _ | refine grew_ext ?_ _ | refine grew_drew ?_ | refine grew_drewN ?_ _)) (src_own hown2 (by simp [intV, Value.oneCell'])) rfl (by omega) ?_; intro v' y hown' hgb)
            have Hown' := Lib.hid (Hst.out _ _ _ hown')
            clear hown hown' hgb hown2 hown3
            go_wp2_with fail
            go_roundw
            case rel => exact ⟨k + 1, _, by omega, by go_num, rfl, Hown'.out⟩
            case measure => simp [intOf]; omega
          · obtain rfl : k = F.kids.length := by omega
            rw [List.take_length] at hown
            have Hfin := Lib.hid (own_fin hg0 hown)
            clear hown
            go_wp2_with fail
            go_ret
            exact ⟨_, _, rfl, (ext_of (by repeat (first | exact grew_refl _ | (with_reducible assumption) | refine grew_alloc ?_ _ | refine grew_ext ?_ _ | refine grew_drew ?_ | refine grew_drewN ?_ _))).symm, Hfin.out⟩
end Go.Proofs.Ytdieipdbkpcgmaa

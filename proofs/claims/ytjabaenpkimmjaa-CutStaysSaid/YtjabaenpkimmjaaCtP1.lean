/- Premises of one's own: a row of forms, a family of rows of terms; what is read of them. -/
import Derived.Test.YtjabaenpkimmjaaCtS
import Derived.Test.YtjabaenpkimmjaaCtN
import Derived.Test.YtjabaenpkimmjaaKLd
namespace Go.Proofs.Ytjabaenpkimmjaa
set_option linter.unusedSimpArgs false
set_option linter.unusedVariables false
open Go.RowKit
attribute [go_sem] Option.map_some Option.map_none
/-- The rows of terms. -/
def famA (ps : List Ln) : List AV := ps.map fun l => .br (cellsM l.t) l.t.length 35 2
/-- The forms' cells; the rows are those of the family F. -/
def ownC (F : Nat) : Nat → List Ln → List AV
  | _, [] => []
  | i, l :: r => inA l.c :: .ow (enc F i) 0 l.t.length l.t.length :: ownC F (i + 1) r
theorem famA_len (ps : List Ln) : (famA ps).length = ps.length := List.length_map ..
theorem ownC_len (F : Nat) : ∀ (i : Nat) (ps : List Ln), (ownC F i ps).length = ps.length * 2
  | _, [] => rfl
  | i, l :: r => by rw [ownC, List.length_cons, List.length_cons, ownC_len F (i + 1) r, List.length_cons]; omega
theorem ownC_at (F : Nat) : ∀ (i : Nat) {ps : List Ln} {k : Nat} (h : k < ps.length), ((ownC F i ps).drop (k * 2)).take 2 = [inA ps[k].c, .ow (enc F (i + k)) 0 ps[k].t.length ps[k].t.length]
  | i, l :: r, 0, _ => rfl
  | i, l :: r, k + 1, h => by
    have h' : k < r.length := by simpa using h
    have := ownC_at F (i + 1) h'
    rw [show (k + 1) * 2 = k * 2 + 1 + 1 by omega, ownC, List.drop_succ_cons, List.drop_succ_cons, this]
    simp [Nat.add_assoc, Nat.add_comm 1 k]
theorem famA_at {ps : List Ln} {k : Nat} (h : k < ps.length) : rowAt (famA ps) k = .br (cellsM ps[k].t) ps[k].t.length 35 2 := by
  simp [rowAt, famA, List.getD_eq_getElem?_getD, h]
theorem ownC_app (F : Nat) : ∀ (i : Nat) (ps : List Ln) (l : Ln), ownC F i (ps ++ [l]) = ownC F i ps ++ [inA l.c, .ow (enc F (i + ps.length)) 0 l.t.length l.t.length]
  | i, [], l => rfl
  | i, p :: r, l => by
    rw [List.cons_append, ownC, ownC, ownC_app F (i + 1) r l, List.length_cons]
    simp [Nat.add_assoc, Nat.add_comm 1]
theorem famA_app (ps : List Ln) (l : Ln) : famA (ps ++ [l]) = famA ps ++ [.br (cellsM l.t) l.t.length 35 2] := by simp [famA]
theorem enc_ne {b F : Nat} (i : Nat) (hb : b < 1000000) : (enc F i == b) = false := by
  have := enc_big F i
  simp; omega
theorem ownC_ref {b : Nat} (hb : b < 1000000) (F k : Nat) : ∀ (i : Nat) (ps : List Ln), (ownC F i ps).any (hasRef b (k + 1)) = false
  | _, [] => rfl
  | i, l :: r => by
    rw [ownC, List.any_cons, List.any_cons, ownC_ref hb F k (i + 1) r]
    simp [hasRef, enc_ne i hb]
theorem ownC_ref4 {b : Nat} (hb : b < 1000000) (F i : Nat) (ps : List Ln) : (ownC F i ps).any (hasRef b 4) = false := ownC_ref hb F 3 i ps
theorem lookK_enc {g : List (Nat × Nat)} {F F' : Nat} (i : Nat) (hF : F < 1000000) (h : lookN g F = some F') : lookK g (enc F i) = some (enc F' i) := by
  unfold lookK
  rw [if_neg (enc_big F i), encB_enc i hF, encI_enc i hF, h]; rfl
theorem ownC_ren {g : List (Nat × Nat)} {F F' : Nat} (hF : F < 1000000) (h : lookN g F = some F') (k : Nat) : ∀ (i : Nat) (ps : List Ln), (ownC F i ps).map (ren g (k + 1)) = ownC F' i ps
  | _, [] => rfl
  | i, l :: r => by
    rw [ownC, List.map_cons, List.map_cons, ownC_ren hF h k (i + 1) r, ownC]
    simp only [ren, lookK_enc i hF h]
theorem ownC_nm {F : Nat} (hF : F < 1000000) (t : Bool) (k : Nat) : ∀ (i : Nat) (ps : List Ln), (ownC F i ps).flatMap (names t (k + 1)) = List.replicate ps.length F
  | _, [] => rfl
  | i, l :: r => by
    rw [ownC, List.flatMap_cons, List.flatMap_cons, ownC_nm hF t k (i + 1) r, List.length_cons, List.replicate_succ]
    simp [names, baseK, enc_lt, encB_enc i hF]
theorem addN_rep {m : List Nat} {F : Nat} (h : m.contains F = true) : ∀ n, addN m (List.replicate n F) = m
  | 0 => rfl
  | n + 1 => by rw [List.replicate_succ, addN, if_pos h, addN_rep h n]
/-- The family. -/
def foA (ps : List Ln) : AV := .fo (famA ps)
theorem foA_ref (b k : Nat) (ps : List Ln) : hasRef b (k + 2) (foA ps) = false := by
  unfold foA famA
  simp only [hasRef, List.any_map, List.any_eq_false]
  intro l _
  simp [hasRef_M]
theorem foA_ref5 (b : Nat) (ps : List Ln) : hasRef b 5 (foA ps) = false := foA_ref b 3 ps
theorem foA_ren (g : List (Nat × Nat)) (ps : List Ln) : renBox g (foA ps) = foA ps := by
  unfold foA famA
  simp [renBox, ren_M4]
theorem foA_nm (t : Bool) (k : Nat) (ps : List Ln) : names t (k + 2) (foA ps) = [] := by
  unfold foA famA
  simp only [names, List.flatMap_map]
  rw [List.flatMap_eq_nil_iff]
  intro l _
  exact names_M t k l.t
theorem foA_nm4 (t : Bool) (ps : List Ln) : names t 4 (foA ps) = [] := foA_nm t 2 ps
theorem foA_exp (ex : List Nat) (σ : AMap) (ps : List Ln) : expBox ex σ (foA ps) = foA ps := by
  unfold foA famA
  simp [expBox, expA_M4]
theorem foA_box (ps : List Ln) : isBox (foA ps) = true := rfl
theorem foA_fo (ps : List Ln) : isFo (foA ps) = true := rfl
attribute [go_sem] ownC_ref4 foA_ref5 foA_ren foA_nm4 foA_exp foA_box foA_fo
/-! ### What is lent. -/
theorem pureX_M (σ : AMap) (k : Nat) (M : List Tm) : (cellsM M).map (pureX [] σ (k + 1)) = cellsM M := mapA_M _ (fun v => rfl) M
theorem own_pure {σ : AMap} {F : Nat} {ps : List Ln} {k : Nat} (hF : F < 1000000) (hσ : mget σ F = foA ps) (hk : k < ps.length) (d : Nat) : pureX [] σ (d + 2) (.ow (enc F k) 0 ps[k].t.length ps[k].t.length) = .sl (cellsM ps[k].t) ps[k].t.length .none := by
  have e1 : rowV σ (enc F k) = .br (cellsM ps[k].t) ps[k].t.length 35 2 := by
    unfold rowV
    rw [if_neg (enc_big F k), encB_enc k hF, encI_enc k hF, hσ]
    exact famA_at hk
  have e2 := cellsM_len ps[k].t
  simp only [pureX, e1]
  rw [if_neg (by simp), if_pos ⟨trivial, by omega⟩]
  have e3 : rowCut (cellsM ps[k].t) 0 (ps[k].t.length * 2) = cellsM ps[k].t := by unfold rowCut; rw [if_pos ⟨rfl, e2⟩]
  rw [e3, pureX_M]
theorem flat_linC (l : Ln) : flatA 3 (linC l) = true := by
  unfold linC
  split
  · rfl
  · rw [code_5]; rfl
theorem check_own {ps : List Ln} {k : Nat} (h : k < ps.length) : AFn Try.prog 9 [.agg [inA ps[k].c, .ow (enc 20000 k) 0 ps[k].t.length ps[k].t.length]] [foA ps] (linC ps[k]) [foA ps] := by
  refine afn_lendD 3 (linCheck_k ps[k]) ?_ (flat_linC _)
  have := own_pure (σ := startB [foA ps]) (F := 20000) (ps := ps) (by decide) (mget_startB _ _) h 2
  rw [List.map_cons, List.map_nil]
  show [AV.agg [inA ps[k].c, pureX [] (startB [foA ps]) 4 (.ow (enc 20000 k) 0 ps[k].t.length ps[k].t.length)]] = _
  rw [this]
theorem clone_own {ps : List Ln} {k : Nat} (h : k < ps.length) (hbig : ps[k].t.length ≤ 8796093022207) :
    AFn Try.prog 10 [.ow (enc 20000 k) 0 ps[k].t.length ps[k].t.length] [foA ps] (.sl (cellsM ps[k].t) ps[k].t.length .none) [foA ps] := by
  have hp := own_pure (σ := startB [foA ps]) (F := 20000) (ps := ps) (by decide) (mget_startB _ _) h 3
  generalize ps[k].t = t at *
  have key : AFn Try.prog 10 [.ow (enc 20000 k) 0 t.length t.length] [foA ps] (.sl ((valsM t).map .c) t.length .none) [foA ps] := by
    refine afn_belowS (e := 35) (sz := 2) (valsM_len t) (valsM_one t) fun w G vs hst hvs hargs => ?_
    obtain ⟨Z1, _, hag, hpx⟩ := lend_seal hst
    have h0 := hpx 5 (hargs 0 (by simp))
    simp only [List.getElem_cons_zero] at h0
    rw [hp, ← valsM_c] at h0
    obtain ⟨a, cap, b, off, f, e0, ⟨q1, q2, q3, q4, q5⟩, _, _⟩ := inv_sl (VRel.p (G := ⟨Z1, fun _ => none, fun _ => 0, fun _ => 0⟩) (B := extGet []) h0)
    have hvs2 : vs = #[.slice a t.length cap] := by
      cases vs with
      | mk l =>
        match l, hvs with
        | [v0], _ => simp at e0; subst e0; rfl
    subst hvs2
    cases a with
    | none =>
      have : t = [] := List.eq_nil_of_length_eq_zero (by have := q2 rfl; omega)
      subst this
      refine (clone_none _ cap w).mono ?_
      rintro e w' ⟨rfl, rfl⟩
      exact ⟨_, rfl, ownsRow_none _ _ _ _, .refl _ _⟩
    | some ad =>
      by_cases h0 : t.length = 0
      · have : t = [] := List.eq_nil_of_length_eq_zero h0
        subst this
        exact clone_zero ad cap w
      · rcases q3 with ⟨q3, _⟩ | q3
        · exact absurd q3 h0
        cases q3
        refine clone_some b off t.length cap t w rfl (by omega) fun j hj => ?_
        have h1 := q4 j (by simpa using hj)
        have h2 := q5 j (by simpa using hj)
        rw [List.getElem_map] at h2
        have h3 := inv_c (VRel.p (G := ⟨Z1, fun _ => none, fun _ => 0, fun _ => 0⟩) (B := extGet []) h2)
        rw [← h3]
        exact (hag _ _ _ h1).1
  rw [valsM_c] at key
  exact key
theorem ownC_pure {σ : AMap} {F : Nat} (hF : F < 1000000) (d : Nat) : ∀ (i : Nat) (ps : List Ln), (∀ k (h : k < ps.length), rowV σ (enc F (i + k)) = .br (cellsM ps[k].t) ps[k].t.length 35 2) → (ownC F i ps).map (pureX [] σ (d + 2)) = ps.flatMap lnA
  | _, [], _ => rfl
  | i, l :: r, h => by
    have h0 := h 0 (by simp)
    simp only [Nat.add_zero, List.getElem_cons_zero] at h0
    have e2 := cellsM_len l.t
    have e3 : rowCut (cellsM l.t) 0 (l.t.length * 2) = cellsM l.t := by unfold rowCut; rw [if_pos ⟨rfl, e2⟩]
    rw [ownC, List.map_cons, List.map_cons, ownC_pure hF d (i + 1) r fun k hk => by
      have := h (k + 1) (by simpa using hk)
      rw [show i + 1 + k = i + (k + 1) by omega]
      simpa using this]
    simp only [pureX, h0]
    rw [if_neg (by simp), if_pos ⟨trivial, by omega⟩, e3, pureX_M]
    rfl
theorem same4_own (ps : List Ln) (hl : Lg ps) (h : ∀ l ∈ ps, Lg l.t) : AFn Try.prog 7 [.ow 20000 0 ps.length ps.length, lnsA ps] [.br (ownC 20001 0 ps) ps.length 28 2, foA ps] (.c (.bool true)) [.br (ownC 20001 0 ps) ps.length 28 2, foA ps] := by
  refine afn_lendD 1 (same4_k ps hl h) ?_ rfl
  have hB : mget (startB [.br (ownC 20001 0 ps) ps.length 28 2, foA ps]) 20001 = foA ps := rfl
  have e0 : rowV (startB [.br (ownC 20001 0 ps) ps.length 28 2, foA ps]) 20000 = .br (ownC 20001 0 ps) ps.length 28 2 := rfl
  have e1 := ownC_len 20001 0 ps
  have e2 : rowCut (ownC 20001 0 ps) 0 (ps.length * 2) = ownC 20001 0 ps := by unfold rowCut; rw [if_pos ⟨rfl, e1⟩]
  have e3 := ownC_pure (σ := startB [.br (ownC 20001 0 ps) ps.length 28 2, foA ps]) (F := 20001) (by decide) 2 0 ps fun k hk => by
    unfold rowV
    rw [if_neg (enc_big _ _), encB_enc _ (by decide), encI_enc _ (by decide), hB, Nat.zero_add]
    exact famA_at hk
  simp only [List.map_cons, List.map_nil, pureX, e0]
  rw [if_neg (by simp), if_pos ⟨trivial, by omega⟩, e2, e3]
end Go.Proofs.Ytjabaenpkimmjaa

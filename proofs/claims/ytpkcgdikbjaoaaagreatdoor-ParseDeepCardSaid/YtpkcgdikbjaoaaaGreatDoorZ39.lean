/- Words with a blank behind each are scanned as they were. No program is in sight. The parser does not look at places but for those of errors. No program is in sight. Sources of things within one another: their words; how they are parsed. No program is in sight. -/
import Derived.Test.YtpkcgdikbjaoaaaGreatDoorZ21
namespace Go.Proofs.YtpkcgdikbjaoaaaGreatDoor
set_option linter.unusedSimpArgs false
set_option linter.unusedVariables false
open Go.RowKit
def kO (t : Tok) : Prop := 0 < t.text.length ∧ ∀ (a : Nat) (r : List UInt8), dC a (t.text ++ 32 :: r) = .tok ⟨t.kind, a, t.text⟩
theorem pX (some r : List UInt8) : r.take (bP some r) = r.takeWhile (fun c => some.contains c) := (List.prefix_iff_eq_take.1 (List.takeWhile_prefix _)).symm
theorem n6 {some t : List UInt8} (h : ∀ c ∈ t, some.contains c = true) {c : UInt8} (hc : some.contains c = false) (r : List UInt8) : bP some (t ++ c :: r) = t.length := by
  unfold bP
  rw [List.takeWhile_append_of_pos h, List.takeWhile_cons, hc]
  simp
theorem kt {some : List UInt8} {c : UInt8} (hc : some.contains c = false) (r : List UInt8) : bP some (c :: r) = 0 := by
  unfold bP; rw [List.takeWhile_cons, hc]; simp
theorem nT {some : List UInt8} {c : UInt8} (hc : some.contains c = true) (r : List UInt8) : 0 < bP some (c :: r) := by
  unfold bP; rw [List.takeWhile_cons, hc]; simp
theorem xt {c : UInt8} (h : lettersL.contains c = true) : digitsL.contains c = false ∧ blanksL.contains c = false ∧ (47 == c) = false ∧ wordL.contains c = true := by
  exact (by decide +kernel : ∀ c ∈ lettersL, digitsL.contains c = false ∧ blanksL.contains c = false ∧ (47 == c) = false ∧ wordL.contains c = true) c (List.contains_iff_mem.1 h)
theorem xN {c : UInt8} (h : digitsL.contains c = true) : lettersL.contains c = false ∧ blanksL.contains c = false ∧ (47 == c) = false := by
  exact (by decide +kernel : ∀ c ∈ digitsL, lettersL.contains c = false ∧ blanksL.contains c = false ∧ (47 == c) = false) c (List.contains_iff_mem.1 h)
theorem um : ∀ o ∈ opL, ∀ (a : Nat) (r : List UInt8), dC a (o ++ 32 :: r) = .tok ⟨4, a, o⟩ := by
  intro o ho a r
  simp only [opL, List.mem_cons, List.not_mem_nil, or_false] at ho
  rcases ho with rfl | rfl | rfl | rfl | rfl | rfl | rfl | rfl | rfl | rfl | rfl | rfl | rfl | rfl | rfl | rfl | rfl | rfl | rfl | rfl | rfl <;> rfl
theorem qD {c : UInt8} (h : (47 == c) = false) (r : List UInt8) : slashL.isPrefixOf (c :: r) = false := by
  unfold slashL; simp only [List.isPrefixOf, h, Bool.false_and]
theorem nZ {a : Nat} {t : Tok} {r : List UInt8} (h : dC a r = .tok t) : kO t := by
  refine ⟨(jt h).1, ?_⟩
  unfold dC at h
  split at h
  · cases h
  split at h
  · cases h
  split at h
  case isFalse => cases h
  rename_i hz
  cases h
  revert hz
  unfold dT
  split
  · rename_i h1
    split
    · intro h; cases h
    · rename_i h2
      intro _ a' r'
      obtain ⟨c, q, rfl, hc⟩ := among_pos.1 h1
      rw [pX] at *
      have hall : ∀ x ∈ (c :: q).takeWhile (fun c => wordL.contains c), wordL.contains x = true := fun x hx => pF hx
      have hl : ((c :: q).takeWhile (fun c => wordL.contains c)).length = bP wordL (c :: q) := rfl
      have hcc := xt hc
      rw [List.takeWhile_cons, hcc.2.2.2] at hall hl ⊢
      simp only [if_true] at hall hl ⊢
      generalize List.takeWhile (fun c => wordL.contains c) q = T at *
      have hw : bP wordL (c :: T ++ 32 :: r') = (c :: T).length := n6 hall (by decide) r'
      unfold dC
      rw [if_neg (by rw [List.cons_append, kt hcc.2.1]; omega), if_neg (by rw [List.cons_append, qD hcc.2.2.1]; simp)]
      have ht : dT a' (c :: T ++ 32 :: r') = (⟨if keyL.contains (c :: T) then 2 else 1, a', c :: T⟩, 0) := by
        unfold dT
        rw [if_pos (by rw [List.cons_append]; exact nT hc _), hw, if_neg (by omega), List.take_left]
      rw [ht]
      simp
  split
  · rename_i h0 h1
    split
    · intro h; cases h
    · rename_i h2
      intro _ a' r'
      obtain ⟨c, q, rfl, hc⟩ := among_pos.1 h1
      simp only [Bool.or_eq_true, Bool.not_eq_true', decide_eq_true_eq, not_or, Bool.not_eq_false] at h2
      rw [pX] at *
      have hall : ∀ x ∈ (c :: q).takeWhile (fun c => digitsL.contains c), digitsL.contains x = true := fun x hx => pF hx
      have hcc := xN hc
      have h2 := h2.1
      rw [List.takeWhile_cons, hc] at hall h2 ⊢
      simp only [if_true] at hall h2 ⊢
      generalize List.takeWhile (fun c => digitsL.contains c) q = T at *
      have hw : bP digitsL (c :: T ++ 32 :: r') = (c :: T).length := n6 hall (by decide) r'
      unfold dC
      rw [if_neg (by rw [List.cons_append, kt hcc.2.1]; omega), if_neg (by rw [List.cons_append, qD hcc.2.2]; simp)]
      have ht : dT a' (c :: T ++ 32 :: r') = (⟨3, a', c :: T⟩, 0) := by
        unfold dT
        rw [if_neg (by rw [List.cons_append, kt hcc.1]; omega), if_pos (by rw [List.cons_append]; exact nT hc _), hw, List.take_left, List.drop_left, h2, kt (by decide)]
        simp
      rw [ht]
      simp
  · split
    · rename_i o ho
      intro _ a' r'
      exact um o (List.mem_of_find?_eq_some ho) a' r'
    · intro h; cases h
theorem i9 : ∀ (f : Nat) (acc : List Tok) (a : Nat) (r : List UInt8), (∀ t ∈ acc, kO t) → ∀ t ∈ (eQ f acc a r).1, kO t
  | 0, acc, _, _, h => h
  | f + 1, acc, a, [], h => h
  | f + 1, acc, a, c :: r, h => by
    simp only [eQ]
    split
    · exact i9 f _ _ _ h
    · rename_i t ht
      exact i9 f _ _ _ fun x hx => by
        rcases List.mem_append.1 hx with hx | hx
        · exact h x hx
        · rw [List.mem_singleton.1 hx]; exact nZ ht
    · exact fun t ht => by simp at ht
theorem yr (l : List UInt8) : ∀ t ∈ (cX l).1, kO t := by
  unfold cX
  split
  · exact fun t ht => by simp at ht
  · exact i9 _ _ _ _ fun t ht => by simp at ht
def dN (l : List Tok) : List UInt8 := l.flatMap fun t => t.text ++ [32]
def jU : Nat → List Tok → List Tok
  | _, [] => []
  | a, t :: r => ⟨t.kind, a, t.text⟩ :: jU (a + (t.text.length + 1)) r
theorem t7 {acc : List Tok} {a : Nat} {c : UInt8} {r : List UInt8} (h : blanksL.contains c = true) : fD acc a (c :: r) = fD acc (a + 1) r := by
  have h1 : bP blanksL (c :: r) = bP blanksL r + 1 := by
    unfold bP; rw [List.takeWhile_cons, if_pos h]; rfl
  have hst : dC a (c :: r) = .skip (bP blanksL r + 1) := by
    unfold dC; rw [if_pos (by omega), h1]
  rw [fd (by simp) hst, List.drop_succ_cons]
  by_cases h2 : 0 < bP blanksL r
  · have hst2 : dC (a + 1) r = .skip (bP blanksL r) := if_pos h2
    rw [fd (a := a + 1) (by have := fu blanksL r; omega) hst2, Nat.add_assoc, Nat.add_comm 1]
  · have : bP blanksL r = 0 := by omega
    rw [this, List.drop_zero]
theorem j9 : ∀ (l : List Tok) (acc : List Tok) (a : Nat) (r : List UInt8), (∀ t ∈ l, kO t) → fD acc a (dN l ++ r) = fD (acc ++ jU a l) (a + (dN l).length) r
  | [], acc, a, r, _ => by simp [dN, jU]
  | t :: l, acc, a, r, h => by
    obtain ⟨h0, h1⟩ := h t (by simp)
    have e : dN (t :: l) ++ r = t.text ++ 32 :: (dN l ++ r) := by simp [dN]
    rw [e, ij (t := ⟨t.kind, a, t.text⟩) (by simp only [List.length_append, List.length_cons]; omega) (h1 a _)]
    simp only
    rw [List.drop_left, t7 (by decide), j9 l _ _ r fun x hx => h x (by simp [hx])]
    have h2 : (dN (t :: l)).length = t.text.length + 1 + (dN l).length := by simp only [dN, List.flatMap_cons, List.length_append, List.length_cons, List.length_nil]
    rw [h2, jU, List.append_assoc]
    simp only [List.singleton_append]
    congr 1
    omega
theorem vM : ∀ (l : List Tok) (a : Nat), (jU a l).map (fun t => (t.kind, t.text)) = l.map fun t => (t.kind, t.text)
  | [], _ => rfl
  | t :: l, a => by rw [jU, List.map_cons, List.map_cons, vM l]
theorem zb {l : List Tok} (h : ∀ t ∈ l, kO t) (hl : (dN l).length ≤ 65536) : cX (dN l) = (jU 0 l, 0, -1) := by
  unfold cX
  rw [if_neg (by omega)]
  have := j9 l [] 0 [] h
  rw [List.append_nil, lm, List.nil_append] at this
  exact this
end Go.Proofs.YtpkcgdikbjaoaaaGreatDoor
namespace Go.Proofs.YtpkcgdikbjaoaaaGreatDoor
set_option linter.unusedSimpArgs false
set_option linter.unusedVariables false
open Go.RowKit
def Tok.er (t : Tok) : Tok := ⟨t.kind, 0, t.text⟩
theorem vz {t : Tok} (h : jW t) : jW t.er := h
def erE : Option (Int × Nat) → Option (Int × Nat)
  | none => none
  | some (_, e) => some (0, e)
def PS.er (s : PS) : PS := ⟨s.l.map Tok.er, 0, s.depth, erE s.err, fun t h => by
  obtain ⟨u, hu, rfl⟩ := List.mem_map.1 h
  exact vz (s.ok u hu), by rw [List.length_map]; exact s.short⟩
theorem jm {s r : PS} (h1 : s.l = r.l) (h2 : s.end0 = r.end0) (h3 : s.depth = r.depth) (h4 : s.err = r.err) : s = r := by
  cases s; cases r; simp_all
theorem pi {s : PS} : s.er.err = none ↔ s.err = none := by
  unfold PS.er erE; cases s.err <;> simp
theorem fZ (s : PS) (w : Wd) : s.er.is w = s.is w := by
  obtain ⟨l, e0, d, er, ok, sh⟩ := s
  unfold PS.is PS.er
  cases er <;> cases l <;> rfl
theorem oA (s : PS) (k : Nat) : s.er.kind k = s.kind k := by
  obtain ⟨l, e0, d, er, ok, sh⟩ := s
  unfold PS.kind PS.er
  cases er <;> cases l <;> rfl
theorem vq (s : PS) : s.er.times = s.times := by
  obtain ⟨l, e0, d, er, ok, sh⟩ := s
  unfold PS.times PS.er
  rcases l with _ | ⟨a, _ | ⟨b, r⟩⟩ <;> rfl
theorem n5 (s : PS) : s.er.err.isNone = s.err.isNone := by
  unfold PS.er erE; cases s.err <;> rfl
theorem ro (s : PS) : s.er.l.isEmpty = s.l.isEmpty := by
  obtain ⟨l, e0, d, er, ok, sh⟩ := s
  cases l <;> rfl
theorem Af (s : PS) : s.er.at = 0 := by
  obtain ⟨l, e0, d, er, ok, sh⟩ := s
  cases l <;> rfl
theorem fm (s : PS) : s.er.drop = s.drop.er := jm (by simp [PS.drop, PS.er]) rfl rfl rfl
theorem iC (s : PS) (e : Nat) : s.er.fail e = (s.fail e).er := by
  have h := Af s
  obtain ⟨l, e0, d, er, ok, sh⟩ := s
  cases er with
  | none => exact jm rfl rfl rfl (by show some (PS.at _, e) = _; rw [h]; rfl)
  | some x => exact jm rfl rfl rfl rfl
theorem fg : ∀ (ws : List Wd) (s : PS), s.er.due ws = (s.due ws).er
  | [], s => rfl
  | w :: r, s => by
    unfold PS.due; rw [fZ, fm, fg r, iC]; split <;> rfl
theorem pP (s : PS) : s.er.enter = s.enter.er := by
  unfold PS.enter
  rw [show s.er.depth = s.depth from rfl, iC]
  split
  · rfl
  · exact jm rfl rfl rfl rfl
theorem hJ (s : PS) : s.er.leave = s.leave.er := jm rfl rfl rfl rfl
theorem kQ (s : PS) (w : Wd) : s.er.open' w = (s.open' w).er := by
  unfold PS.open'
  rw [fZ, pP]
  split <;> rw [fg]
theorem wZ (s : PS) (w : Wd) : (s.er.take w).2 = (s.take w).2.er := by
  unfold PS.take; rw [fZ, fm]; split <;> rfl
def Er {α : Type} (g : PS → α × PS) : Prop := ∀ s, g s.er = ((g s).1, (g s).2.er)
theorem Er.a {α : Type} {g : PS → α × PS} (h : Er g) (s : PS) : (g s.er).1 = (g s).1 := by rw [h]
theorem Er.b {α : Type} {g : PS → α × PS} (h : Er g) (s : PS) : (g s.er).2 = (g s).2.er := by rw [h]
theorem wJ (s : PS) : (s.er.l.headD jp).text = (s.l.headD jp).text := by
  obtain ⟨l, e0, d, er, ok, sh⟩ := s
  cases l <;> rfl
theorem kM (k : Nat) : Er (fun s => s.word k) := fun s => by
  simp only
  unfold PS.word; rw [oA, fm, iC, wJ]; split <;> rfl
theorem l3 (s : PS) (k : Nat) : (s.er.word k).1 = (s.word k).1 := (kM k).a s
theorem mJ (s : PS) (k : Nat) : (s.er.word k).2 = (s.word k).2.er := (kM k).b s
theorem vA (s : PS) : s.er.number.1 = s.number.1 := by unfold PS.number; rw [l3]
theorem vf (s : PS) : s.er.number.2 = s.number.2.er := by unfold PS.number; rw [mJ]
theorem mN {α : Type} {w : Wd} {g : PS → α × PS} (hg : Er g) : ∀ (f : Nat) (out : List α), Er (fN w g f out)
  | 0, out => fun s => rfl
  | f + 1, out => fun s => by
    unfold fN; rw [fZ, fm, hg.a, hg.b, mN hg f]; split <;> rfl
theorem lQ {α : Type} {w : Wd} {mk : α → α → α} {g : PS → α × PS} (hg : Er g) : ∀ (f : Nat) (out : α), Er (fk w mk g f out)
  | 0, out => fun s => rfl
  | f + 1, out => fun s => by
    unfold fk; rw [fZ, fm, hg.a, hg.b, lQ hg f]; split <;> rfl
theorem pT (u : Wd) : Er (fun s => s.names u) := fun s => by
  simp only
  unfold PS.names; rw [fZ, l3, mJ, mN (kM 1)]; split <;> rfl
theorem nC {g : PS → Ex × PS} (hg : Er g) : ∀ (f : Nat) (out : Ex), Er (fE g f out)
  | 0, out => fun s => rfl
  | f + 1, out => fun s => by
    unfold fE; rw [fZ, fZ, fm, hg.a, hg.b, nC hg f]; split <;> rfl
theorem m2 {g : PS → Ex × PS} (hg : Er g) : Er (jg g) := fun s => by
  unfold jg; rw [hg.a, hg.b, nC hg]
theorem rF {g : PS → Ex × PS} (hg : Er g) (z : Int) : Er (eN g z) := fun s => by
  unfold eN
  simp only [vq]
  split
  · simp only [pP, vA, vf, fg, hg.a, hg.b, hJ]
  · simp only [vA, vf]
theorem u7 {g : PS → Ex × PS} (hg : Er g) : Er (i6 g) := fun s => by
  unfold i6
  simp only [fZ, wZ, oA]
  split
  · rw [iC]
  split
  · exact rF hg _ _
  split
  · simp only [kQ, (m2 hg).a, (m2 hg).b, fg, hJ]
  · simp only [l3, mJ]
theorem qF : ∀ f, Er (mR f)
  | 0 => fun s => rfl
  | f + 1 => u7 (qF f)
theorem er_expr : Er du := m2 (qF FU)
theorem q9 (u : Wd) : Er (fun s => s.exprs u) := fun s => by
  simp only
  unfold PS.exprs; rw [fZ, er_expr.a, er_expr.b, mN er_expr]; split <;> rfl
theorem oD {g : PS → Co × PS} (hg : Er g) : Er (lF g) := fun s => by
  unfold lF; rw [hg.a, hg.b, lQ hg]
theorem mo {g : PS → Co × PS} (hg : Er g) : Er (iZ g) := fun s => by
  unfold iZ; rw [(oD hg).a, (oD hg).b, lQ (oD hg)]
theorem er_cmp : Er PS.cmp := fun s => by
  unfold PS.cmp
  simp only [fZ, fm, iC]
  repeat' split
  all_goals rfl
theorem lw {g : PS → Co × PS} (hg : Er g) : Er (eE g) := fun s => by
  unfold eE
  simp only [kQ, (mo hg).a, (mo hg).b, fg, hJ]
theorem w9 {g : PS → Co × PS} (hg : Er g) : Er (l6 g) := fun s => by
  unfold l6
  simp only [fZ, kQ, hg.a, hg.b, hJ, fm, er_expr.a, er_expr.b, er_cmp.a, er_cmp.b]
  split
  · rfl
  split
  · exact lw hg s
  split
  · rfl
  split <;> rfl
theorem oK : ∀ f, Er (rc f)
  | 0 => fun s => rfl
  | f + 1 => w9 (oK f)
theorem er_cond : Er gL := mo (oK FU)
theorem er_bracket : Er fA := lw (oK FU)
theorem re (s : PS) : s.er.place.1 = s.place.1 := by unfold PS.place; simp only [er_expr.a]
theorem rx (s : PS) : s.er.place.2.1 = s.place.2.1 := by unfold PS.place; simp only [er_expr.b, fg, l3]
theorem rC (s : PS) : s.er.place.2.2 = s.place.2.2.er := by unfold PS.place; simp only [er_expr.b, fg, mJ]
theorem kV {g : PS → As × PS} (hg : Er g) (a b : Wd) : Er (eJ g a b) := fun s => by
  unfold eJ
  simp only [kQ, hg.a, hg.b, fg, hJ]
theorem qz {g : PS → As × PS} (hg : Er g) : Er (i0 g) := fun s => by
  unfold i0; rw [hg.a, hg.b, lQ hg]
theorem oQ (b : Bool) : Er (fun s => s.cell b) := fun s => by
  simp only
  unfold PS.cell
  simp only [fg, re, rx, rC, vA, vf, er_expr.a, er_expr.b]
  split <;> rfl
theorem ve {g : PS → As × PS} (hg : Er g) : Er (jk g) := fun s => by
  unfold jk
  simp only [fZ, fm, er_bracket.a, er_bracket.b, (oQ _).a, (oQ _).b, er_cond.a, er_cond.b, (kV hg _ _).a, (kV hg _ _).b, fg, iC]
  split
  · rfl
  split
  · rfl
  split
  · exact oQ _ _
  split
  · rfl
  split
  · exact kV hg _ _ _
  · rfl
theorem qm : ∀ f, Er (l4 f)
  | 0 => fun s => rfl
  | f + 1 => ve (qz (qm f))
theorem er_assn : Er iX := qz (qm FU)
theorem er_call : Er PS.call := fun s => by
  unfold PS.call
  simp only [fg, l3, mJ, (q9 _).a, (q9 _).b]
theorem er_set : Er PS.set := fun s => by
  unfold PS.set
  simp only [l3, mJ, fg, fZ, fm, re, rx, rC, (mN (kM 1) _ _).a, (mN (kM 1) _ _).b, er_call.a, er_call.b, er_expr.a, er_expr.b]
  split
  · rfl
  split
  · rfl
  split <;> rfl
theorem ld {g : PS → St × PS} (hg : Er g) : ∀ (f : Nat) (out : List St), Er (fe g f out)
  | 0, out => fun s => rfl
  | f + 1, out => fun s => by
    unfold fe; rw [fZ, n5, hg.a, hg.b, ld hg f]; split <;> rfl
theorem oq {g : PS → St × PS} (hg : Er g) : Er (g5 g) := fun s => by
  unfold g5
  simp only [kQ, (ld hg _ _).a, (ld hg _ _).b, fg, hJ]
theorem vv {g : PS → List St × PS} (hg : Er g) : Er (il g) := fun s => by
  unfold il
  simp only [fZ, oA, fm, fg, re, rx, rC, er_expr.a, er_expr.b, er_cond.a, er_cond.b, er_call.a, er_call.b, er_set.a, er_set.b, hg.a, hg.b, er_assn.a, er_assn.b, iC]
  split
  · rfl
  split
  · rfl
  split
  · rfl
  split
  · rfl
  split
  · rfl
  split
  · rfl
  split
  · rfl
  split <;> rfl
theorem qL : ∀ f, Er (lC f)
  | 0 => fun s => rfl
  | f + 1 => vv (oq (qL f))
theorem er_block : Er gZ := oq (qL FU)
theorem er_proc : Er PS.proc := fun s => by
  unfold PS.proc
  simp only [fg, l3, mJ, (pT _).a, (pT _).b, er_assn.a, er_assn.b, er_block.a, er_block.b]
theorem jO : ∀ (f : Nat) (out : List Pc), Er (dL f out)
  | 0, out => fun s => rfl
  | f + 1, out => fun s => by
    unfold dL; rw [n5, ro, er_proc.a, er_proc.b, jO f]; split <;> rfl
theorem Ac {a b : Wd} (h : (cX a).1.map Tok.er = (cX b).1.map Tok.er) : (dG a).1 = (dG b).1 ∧ ((dG a).2.err = none ↔ (dG b).2.err = none) := by
  have h1 : (eS a).er = (eS b).er := jm h rfl rfl rfl
  have ha := jO FU [] (eS a)
  have hb := jO FU [] (eS b)
  rw [h1, hb] at ha
  unfold dG
  have h2 := congrArg Prod.fst ha
  have h3 := congrArg Prod.snd ha
  simp only at h2 h3
  exact ⟨h2.symm, by rw [← pi, ← pi (s := (dL FU [] (eS b)).2), h3]⟩
end Go.Proofs.YtpkcgdikbjaoaaaGreatDoor
namespace Go.Proofs.YtpkcgdikbjaoaaaGreatDoor
set_option linter.unusedSimpArgs false
set_option linter.unusedVariables false
open Go.RowKit
structure Dp where
  fB : Wd
  tB : Wd
  iB : Wd
  aB : Wd
  zB : Wd
  fT : List Tok
  tT : List Tok
  iT : List Tok
  aT : List Tok
  zT : List Tok
abbrev tk (k : Nat) (w : Wd) : Tok := ⟨k, 0, w⟩
def xT : Tok := tk 1 [120]
def uZ : Tok := tk 2 [116, 114, 117, 101]
def tX : Tok := tk 4 [59]
def jS : Tok := tk 4 [125]
def zn : Tok := tk 4 [123]
def yD : Wd := [120, 32, 58, 61, 32]
def zN : List Tok := [xT, tk 4 [58, 61]]
def yV : Wd := [97, 115, 115, 101, 114, 116, 32]
def z3 : List Tok := [tk 2 [97, 115, 115, 101, 114, 116]]
def hdB : Wd := [112, 114, 111, 99, 32, 112, 32, 40, 32, 59, 32, 41, 32, 114, 101, 113, 117, 105, 114, 101, 115, 32, 101, 109, 112, 32, 101, 110, 115, 117, 114, 101, 115, 32, 101, 109, 112, 32, 123, 32]
def hdT : List Tok := [tk 2 [112, 114, 111, 99], tk 1 [112], tk 4 [40], tX, tk 4 [41], tk 2 [114, 101, 113, 117, 105, 114, 101, 115], tk 2 [101, 109, 112], tk 2 [101, 110, 115, 117, 114, 101, 115], tk 2 [101, 109, 112], zn]
def dp : Nat → Dp
  | 0 => ⟨[40, 32], [32, 41], [120], yD, [32, 59], [tk 4 [40]], [tk 4 [41]], [xT], zN, [tX]⟩
  | 1 => ⟨[50, 32, 42, 32], [], [120], yD, [32, 59], [tk 3 [50], tk 4 [42]], [], [xT], zN, [tX]⟩
  | 2 => ⟨[33, 32], [], [116, 114, 117, 101], yV, [32, 59], [tk 4 [33]], [], [uZ], z3, [tX]⟩
  | 3 => ⟨[91, 32], [32, 93], [116, 114, 117, 101], yV, [32, 59], [tk 4 [91]], [tk 4 [93]], [uZ], z3, [tX]⟩
  | _ => ⟨[105, 102, 32, 116, 114, 117, 101, 32, 123, 32], [32, 125, 32, 101, 108, 115, 101, 32, 123, 32, 125], [115, 107, 105, 112, 32, 59], [], [], [tk 2 [105, 102], uZ, zn], [jS, tk 2 [101, 108, 115, 101], zn, jS], [tk 2 [115, 107, 105, 112], tX], [], []⟩
def rp {α : Type} (l : List α) : Nat → List α
  | 0 => []
  | n + 1 => l ++ rp l n
theorem tg {α : Type} (l : List α) : ∀ n, rp l (n + 1) = rp l n ++ l
  | 0 => by simp [rp]
  | n + 1 => by show l ++ rp l (n + 1) = (l ++ rp l n) ++ l; rw [tg l n, List.append_assoc]
theorem uN {α : Type} (l : List α) : ∀ n m, rp l (n + m) = rp l n ++ rp l m
  | 0, m => by simp [rp]
  | n + 1, m => by rw [Nat.add_right_comm, rp, uN l n m, rp, List.append_assoc]
theorem oX {α : Type} (l : List α) : ∀ n, (rp l n).length = n * l.length
  | 0 => by simp [rp]
  | n + 1 => by rw [rp, List.length_append, oX l n, Nat.succ_mul, Nat.add_comm]
theorem rl {α : Type} {l : List α} {x : α} : ∀ {n}, x ∈ rp l n → x ∈ l
  | 0, h => by simp [rp] at h
  | n + 1, h => by
    rw [rp] at h
    rcases List.mem_append.1 h with h | h
    · exact h
    · exact rl h
def inB (d : Dp) (n : Nat) : Wd := rp d.fB n ++ d.iB ++ rp d.tB n
def jR (d : Dp) (n : Nat) : Wd := hdB ++ (d.aB ++ inB d n ++ d.zB) ++ [32, 125]
def lq (d : Dp) (n : Nat) : List Tok := hdT ++ d.aT ++ rp d.fT n ++ d.iT ++ rp d.tT n ++ d.zT
theorem nf (a b : List Tok) : dN (a ++ b) = dN a ++ dN b := by simp [dN]
theorem oE (l : List Tok) : ∀ n, dN (rp l n) = rp (dN l) n
  | 0 => rfl
  | n + 1 => by rw [rp, nf, oE l n, rp]
theorem v8 {t : Wd} {l : List Tok} (h : t ++ [32] = 32 :: dN l) : ∀ n, rp t n ++ [32] = 32 :: dN (rp l n)
  | 0 => rfl
  | n + 1 => by
    rw [rp, List.append_assoc, v8 h n, rp, nf, show t ++ 32 :: dN (rp l n) = (t ++ [32]) ++ dN (rp l n) by simp, h]
    rfl
structure xc (d : Dp) : Prop where
  f : d.fB = dN d.fT
  t : d.tB ++ [32] = 32 :: dN d.tT
  i : d.iB ++ [32] = dN d.iT
  a : d.aB = dN d.aT
  z : d.zB ++ [32] = 32 :: dN d.zT
  c : ∀ x ∈ hdT ++ d.aT ++ d.fT ++ d.iT ++ d.tT ++ d.zT ++ [jS], kO x
  o : ∀ x ∈ hdT ++ d.aT ++ d.fT ++ d.iT ++ d.tT ++ d.zT ++ [jS], jW x
theorem wx {d : Dp} (h : xc d) (n : Nat) : jR d n = dN (lq d n) ++ [125] := by
  have h1 := v8 h.t n
  unfold jR lq inB
  simp only [nf, oE, ← h.f, ← h.a, ← h.i, show dN hdT = hdB from rfl]
  have e : ∀ X : Wd, d.zB ++ (32 :: X) = 32 :: (dN d.zT ++ X) := fun X => by
    rw [show d.zB ++ 32 :: X = (d.zB ++ [32]) ++ X by simp, h.z]; rfl
  have e2 : ∀ X : Wd, rp d.tB n ++ (32 :: X) = 32 :: (rp (dN d.tT) n ++ X) := fun X => by
    rw [show rp d.tB n ++ 32 :: X = (rp d.tB n ++ [32]) ++ X by simp, h1, oE]; rfl
  simp only [List.append_assoc, List.cons_append, List.nil_append, e, e2]
theorem mT {d : Dp} {n : Nat} {x : Tok} (h : x ∈ lq d n ++ [jS]) : x ∈ hdT ++ d.aT ++ d.fT ++ d.iT ++ d.tT ++ d.zT ++ [jS] := by
  unfold lq at h
  simp only [List.mem_append] at h ⊢
  rcases h with (((((h | h) | h) | h) | h) | h) | h
  · exact .inl (.inl (.inl (.inl (.inl (.inl h)))))
  · exact .inl (.inl (.inl (.inl (.inl (.inr h)))))
  · exact .inl (.inl (.inl (.inl (.inr (rl h)))))
  · exact .inl (.inl (.inl (.inr h)))
  · exact .inl (.inl (.inr (rl h)))
  · exact .inl (.inr h)
  · exact .inr h
theorem uf (acc : List Tok) (a : Nat) : fD acc a [125] = (acc ++ [⟨4, a, [125]⟩], 0, -1) := rfl
theorem sN : ∀ (l : List Tok) (a : Nat), (∀ t ∈ l, t.at0 = 0) → (jU a l).map Tok.er = l
  | [], _, _ => rfl
  | t :: l, a, h => by
    rw [jU, List.map_cons, sN l _ fun x hx => h x (by simp [hx])]
    have := h t (by simp)
    obtain ⟨k, b, w⟩ := t
    simp only at this
    subst this; rfl
theorem qI {d : Dp} (h : xc d) (n : Nat) (hl : (jR d n).length ≤ 65536) : ∃ b, cX (jR d n) = (jU 0 (lq d n) ++ [⟨4, b, [125]⟩], 0, -1) := by
  unfold cX
  rw [if_neg (by omega), wx h n]
  have := j9 (lq d n) [] 0 [125] fun t ht => h.c t (mT (List.mem_append_left _ ht))
  rw [uf, List.nil_append] at this
  exact ⟨_, this⟩
theorem v9 : ∀ k, xc (dp k)
  | 0 => ⟨rfl, rfl, rfl, rfl, rfl, cl _ (by decide +kernel), ko _ (by decide +kernel)⟩
  | 1 => ⟨rfl, rfl, rfl, rfl, rfl, cl _ (by decide +kernel), ko _ (by decide +kernel)⟩
  | 2 => ⟨rfl, rfl, rfl, rfl, rfl, cl _ (by decide +kernel), ko _ (by decide +kernel)⟩
  | 3 => ⟨rfl, rfl, rfl, rfl, rfl, cl _ (by decide +kernel), ko _ (by decide +kernel)⟩
  | n + 4 => show xc (dp 4) from ⟨rfl, rfl, rfl, rfl, rfl, cl _ (by decide +kernel), ko _ (by decide +kernel)⟩
where
  cl (l : List Tok) (h : (l.all fun t => match dC 0 (t.text ++ [32]) with | .tok u => u.kind == t.kind && u.text == t.text | _ => false) = true) : ∀ x ∈ l, kO x := fun x hx => by
    have := List.all_eq_true.1 h x hx
    split at this
    · rename_i u hu
      simp only [Bool.and_eq_true, beq_iff_eq] at this
      have hc := nZ hu
      unfold kO at *
      rw [← this.1, ← this.2]; exact hc
    · cases this
  ko (l : List Tok) (h : (l.all fun t => (t.kind == 1 || t.kind == 2 || t.kind == 4 || t.kind == 3 && t.text == [50]) && (t.text != [42] || t.kind == 4)) = true) : ∀ x ∈ l, jW x := fun x hx => by
    have := List.all_eq_true.1 h x hx
    simp only [Bool.and_eq_true, Bool.or_eq_true, beq_iff_eq, bne_iff_ne, ne_eq] at this
    refine ⟨by omega, fun h3 => ?_, fun h4 => ?_⟩
    · rcases this.1 with ((h | h) | h) | h
      · omega
      · omega
      · omega
      · rw [h.2]; exact ⟨by decide, by decide⟩
    · exact this.2.resolve_left (fun h => h h4)
theorem x6 (k n : Nat) : ∀ t ∈ lq (dp k) n ++ [jS], t.at0 = 0 := fun t ht => by
  have h := mT ht
  revert t
  intro t _ h
  have : ((hdT ++ (dp k).aT ++ (dp k).fT ++ (dp k).iT ++ (dp k).tT ++ (dp k).zT ++ [jS]).all fun t => t.at0 == 0) = true := by
    match k with
    | 0 => rfl
    | 1 => rfl
    | 2 => rfl
    | 3 => rfl
    | _ + 4 => rfl
  simpa using List.all_eq_true.1 this t h
theorem vh (k : Nat) : (dp k).fT.length ≤ 3 ∧ (dp k).tT.length ≤ 4 ∧ (dp k).iT.length ≤ 2 ∧ (dp k).aT.length ≤ 2 ∧ (dp k).zT.length ≤ 1 := by
  match k with
  | 0 => decide
  | 1 => decide
  | 2 => decide
  | 3 => decide
  | _ + 4 => exact ⟨Nat.le_of_ble_eq_true rfl, Nat.le_of_ble_eq_true rfl, Nat.le_of_ble_eq_true rfl, Nat.le_of_ble_eq_true rfl, Nat.le_of_ble_eq_true rfl⟩
theorem vL (k : Nat) {n : Nat} (hn : n ≤ 200) : (lq (dp k) n ++ [jS]).length ≤ 65536 := by
  have h := vh k
  have h1 : n * (dp k).fT.length ≤ 200 * 3 := Nat.mul_le_mul hn h.1
  have h2 : n * (dp k).tT.length ≤ 200 * 4 := Nat.mul_le_mul hn h.2.1
  simp only [lq, List.length_append, oX, show hdT.length = 10 from rfl, show ([jS] : List Tok).length = 1 from rfl]
  omega
theorem nW (k : Nat) : (dp k).fB.length ≤ 10 ∧ (dp k).tB.length ≤ 11 ∧ (dp k).iB.length ≤ 6 ∧ (dp k).aB.length ≤ 7 ∧ (dp k).zB.length ≤ 2 := by
  match k with
  | 0 => decide
  | 1 => decide
  | 2 => decide
  | 3 => decide
  | _ + 4 => exact ⟨Nat.le_of_ble_eq_true rfl, Nat.le_of_ble_eq_true rfl, Nat.le_of_ble_eq_true rfl, Nat.le_of_ble_eq_true rfl, Nat.le_of_ble_eq_true rfl⟩
theorem qr (k : Nat) {n : Nat} (hn : n ≤ 200) : (jR (dp k) n).length ≤ 65536 := by
  have h := nW k
  have h1 : n * (dp k).fB.length ≤ 200 * 10 := Nat.mul_le_mul hn h.1
  have h2 : n * (dp k).tB.length ≤ 200 * 11 := Nat.mul_le_mul hn h.2.1
  simp only [jR, inB, List.length_append, oX, show hdB.length = 40 from rfl, show ([32, 125] : Wd).length = 2 from rfl]
  omega
def stT (k n : Nat) (hn : n ≤ 200) : PS := ⟨lq (dp k) n ++ [jS], 0, 0, none, fun t h => (v9 k).o t (mT h), vL k hn⟩
theorem nJ (k : Nat) {n : Nat} (hn : n ≤ 200) : (dG (jR (dp k) n)).2.err = none ↔ (dL FU [] (stT k n hn)).2.err = none := by
  obtain ⟨b, hb⟩ := qI (v9 k) n (qr k hn)
  have he : (eS (jR (dp k) n)).er = stT k n hn := by
    refine jm ?_ rfl rfl rfl
    show (cX (jR (dp k) n)).1.map Tok.er = lq (dp k) n ++ [jS]
    rw [hb]
    simp only [List.map_append, sN _ _ fun t ht => x6 k n t (List.mem_append_left _ ht)]
    rfl
  have h1 := jO FU [] (eS (jR (dp k) n))
  rw [he] at h1
  unfold dG
  rw [h1, pi]
def okF (k n : Nat) (hn : n ≤ 200) : Bool := (dL FU [] (stT k n hn)).2.err.isNone
theorem vK : ∀ n : Fin 41, okF 0 n.1 (by omega) = true := by decide +kernel
theorem vu : ∀ n : Fin 41, okF 1 n.1 (by omega) = true := by decide +kernel
theorem uX : ∀ n : Fin 41, okF 2 n.1 (by omega) = true := by decide +kernel
theorem wh : ∀ n : Fin 41, okF 3 n.1 (by omega) = true := by decide +kernel
theorem vw : ∀ n : Fin 41, okF 4 n.1 (by omega) = true := by decide +kernel
theorem zW (X : List Tok) (h1) (h2) : (dL FU [] ⟨hdT ++ (dp 0).aT ++ (rp (dp 0).fT 52) ++ X, 0, 0, none, h1, h2⟩).2.err.isNone = false := by kernel_rfl
theorem Aa (X : List Tok) (h1) (h2) : (dL FU [] ⟨hdT ++ (dp 1).aT ++ (rp (dp 1).fT 52) ++ X, 0, 0, none, h1, h2⟩).2.err.isNone = false := by kernel_rfl
theorem zV (X : List Tok) (h1) (h2) : (dL FU [] ⟨hdT ++ (dp 2).aT ++ (rp (dp 2).fT 52) ++ X, 0, 0, none, h1, h2⟩).2.err.isNone = false := by kernel_rfl
theorem zO (X : List Tok) (h1) (h2) : (dL FU [] ⟨hdT ++ (dp 3).aT ++ (rp (dp 3).fT 52) ++ X, 0, 0, none, h1, h2⟩).2.err.isNone = false := by kernel_rfl
theorem zJ (X : List Tok) (h1) (h2) : (dL FU [] ⟨hdT ++ (dp 4).aT ++ (rp (dp 4).fT 52) ++ X, 0, 0, none, h1, h2⟩).2.err.isNone = false := by kernel_rfl
theorem wo {k : Nat} (hk : k < 5) {n : Nat} (hn : n ≤ 200) : (n ≤ 40 → (dG (jR (dp k) n)).2.err = none) ∧ (52 ≤ n → (dG (jR (dp k) n)).2.err ≠ none) := by
  rw [nJ k hn]
  constructor
  · intro h
    have hf : okF k n hn = true → (dL FU [] (stT k n hn)).2.err = none := fun h => Option.isNone_iff_eq_none.1 h
    refine hf ?_
    clear hf
    match k, hk with
    | 0, _ => exact vK ⟨n, by omega⟩
    | 1, _ => exact vu ⟨n, by omega⟩
    | 2, _ => exact uX ⟨n, by omega⟩
    | 3, _ => exact wh ⟨n, by omega⟩
    | 4, _ => exact vw ⟨n, by omega⟩
  · intro h h0
    obtain ⟨m, rfl⟩ : ∃ m, n = 52 + m := ⟨n - 52, by omega⟩
    have h1 : ∀ h2 h3, (dL FU [] ⟨hdT ++ (dp k).aT ++ (rp (dp k).fT 52) ++ (rp (dp k).fT m ++ (dp k).iT ++ rp (dp k).tT (52 + m) ++ (dp k).zT ++ [jS]), 0, 0, none, h2, h3⟩).2.err.isNone = false := by
      match k, hk with
      | 0, _ => exact zW _
      | 1, _ => exact Aa _
      | 2, _ => exact zV _
      | 3, _ => exact zO _
      | 4, _ => exact zJ _
    have e : lq (dp k) (52 + m) ++ [jS] = hdT ++ (dp k).aT ++ (rp (dp k).fT 52) ++ (rp (dp k).fT m ++ (dp k).iT ++ rp (dp k).tT (52 + m) ++ (dp k).zT ++ [jS]) := by
      unfold lq
      rw [uN (dp k).fT]
      simp only [List.append_assoc]
    have h4 := h1 (e ▸ (stT k (52 + m) hn).ok) (e ▸ (stT k (52 + m) hn).short)
    have h5 : stT k (52 + m) hn = ⟨hdT ++ (dp k).aT ++ (rp (dp k).fT 52) ++ (rp (dp k).fT m ++ (dp k).iT ++ rp (dp k).tT (52 + m) ++ (dp k).zT ++ [jS]), 0, 0, none, e ▸ (stT k (52 + m) hn).ok, e ▸ (stT k (52 + m) hn).short⟩ := jm e rfl rfl rfl
    rw [← h5, (nJ k hn).1 h0] at h4
    cases h4
end Go.Proofs.YtpkcgdikbjaoaaaGreatDoor

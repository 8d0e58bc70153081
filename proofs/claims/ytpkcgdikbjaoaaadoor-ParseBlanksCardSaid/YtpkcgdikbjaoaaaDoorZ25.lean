/- Words with a blank behind each are scanned as they were. No program is in sight. The parser does not look at places but for those of errors. No program is in sight. -/
import Derived.Test.YtpkcgdikbjaoaaaDoorZ21
namespace Go.Proofs.YtpkcgdikbjaoaaaDoor
set_option linter.unusedSimpArgs false
set_option linter.unusedVariables false
open Go.RowKit
def kq (t : Tok) : Prop := 0 < t.text.length ∧ ∀ (a : Nat) (r : List UInt8), cx a (t.text ++ 32 :: r) = .tok ⟨t.kind, a, t.text⟩
theorem my (some r : List UInt8) : r.take (be some r) = r.takeWhile (fun c => some.contains c) := (List.prefix_iff_eq_take.1 (List.takeWhile_prefix _)).symm
theorem j5 {some t : List UInt8} (h : ∀ c ∈ t, some.contains c = true) {c : UInt8} (hc : some.contains c = false) (r : List UInt8) : be some (t ++ c :: r) = t.length := by
  unfold be
  rw [List.takeWhile_append_of_pos h, List.takeWhile_cons, hc]
  simp
theorem gJ {some : List UInt8} {c : UInt8} (hc : some.contains c = false) (r : List UInt8) : be some (c :: r) = 0 := by
  unfold be; rw [List.takeWhile_cons, hc]; simp
theorem kt {some : List UInt8} {c : UInt8} (hc : some.contains c = true) (r : List UInt8) : 0 < be some (c :: r) := by
  unfold be; rw [List.takeWhile_cons, hc]; simp
theorem rG {c : UInt8} (h : lettersL.contains c = true) : digitsL.contains c = false ∧ blanksL.contains c = false ∧ (47 == c) = false ∧ wordL.contains c = true := by
  exact (by decide +kernel : ∀ c ∈ lettersL, digitsL.contains c = false ∧ blanksL.contains c = false ∧ (47 == c) = false ∧ wordL.contains c = true) c (List.contains_iff_mem.1 h)
theorem ra {c : UInt8} (h : digitsL.contains c = true) : lettersL.contains c = false ∧ blanksL.contains c = false ∧ (47 == c) = false := by
  exact (by decide +kernel : ∀ c ∈ digitsL, lettersL.contains c = false ∧ blanksL.contains c = false ∧ (47 == c) = false) c (List.contains_iff_mem.1 h)
theorem pN : ∀ o ∈ opL, ∀ (a : Nat) (r : List UInt8), cx a (o ++ 32 :: r) = .tok ⟨4, a, o⟩ := by
  intro o ho a r
  simp only [opL, List.mem_cons, List.not_mem_nil, or_false] at ho
  rcases ho with rfl | rfl | rfl | rfl | rfl | rfl | rfl | rfl | rfl | rfl | rfl | rfl | rfl | rfl | rfl | rfl | rfl | rfl | rfl | rfl | rfl <;> rfl
theorem lJ {c : UInt8} (h : (47 == c) = false) (r : List UInt8) : slashL.isPrefixOf (c :: r) = false := by
  unfold slashL; simp only [List.isPrefixOf, h, Bool.false_and]
theorem oL {a : Nat} {t : Tok} {r : List UInt8} (h : cx a r = .tok t) : kq t := by
  refine ⟨(eC h).1, ?_⟩
  unfold cx at h
  split at h
  · cases h
  split at h
  · cases h
  split at h
  case isFalse => cases h
  rename_i hz
  cases h
  revert hz
  unfold dd
  split
  · rename_i h1
    split
    · intro h; cases h
    · rename_i h2
      intro _ a' r'
      obtain ⟨c, q, rfl, hc⟩ := among_pos.1 h1
      rw [my] at *
      have hall : ∀ x ∈ (c :: q).takeWhile (fun c => wordL.contains c), wordL.contains x = true := fun x hx => lu hx
      have hl : ((c :: q).takeWhile (fun c => wordL.contains c)).length = be wordL (c :: q) := rfl
      have hcc := rG hc
      rw [List.takeWhile_cons, hcc.2.2.2] at hall hl ⊢
      simp only [if_true] at hall hl ⊢
      generalize List.takeWhile (fun c => wordL.contains c) q = T at *
      have hw : be wordL (c :: T ++ 32 :: r') = (c :: T).length := j5 hall (by decide) r'
      unfold cx
      rw [if_neg (by rw [List.cons_append, gJ hcc.2.1]; omega), if_neg (by rw [List.cons_append, lJ hcc.2.2.1]; simp)]
      have ht : dd a' (c :: T ++ 32 :: r') = (⟨if keyL.contains (c :: T) then 2 else 1, a', c :: T⟩, 0) := by
        unfold dd
        rw [if_pos (by rw [List.cons_append]; exact kt hc _), hw, if_neg (by omega), List.take_left]
      rw [ht]
      simp
  split
  · rename_i h0 h1
    split
    · intro h; cases h
    · rename_i h2
      intro _ a' r'
      obtain ⟨c, q, rfl, hc⟩ := among_pos.1 h1
      simp only [Bool.or_eq_true, Bool.not_eq_true', decide_eq_true_eq, not_or, Bool.not_eq_false] at h2
      rw [my] at *
      have hall : ∀ x ∈ (c :: q).takeWhile (fun c => digitsL.contains c), digitsL.contains x = true := fun x hx => lu hx
      have hcc := ra hc
      have h2 := h2.1
      rw [List.takeWhile_cons, hc] at hall h2 ⊢
      simp only [if_true] at hall h2 ⊢
      generalize List.takeWhile (fun c => digitsL.contains c) q = T at *
      have hw : be digitsL (c :: T ++ 32 :: r') = (c :: T).length := j5 hall (by decide) r'
      unfold cx
      rw [if_neg (by rw [List.cons_append, gJ hcc.2.1]; omega), if_neg (by rw [List.cons_append, lJ hcc.2.2]; simp)]
      have ht : dd a' (c :: T ++ 32 :: r') = (⟨3, a', c :: T⟩, 0) := by
        unfold dd
        rw [if_neg (by rw [List.cons_append, gJ hcc.1]; omega), if_pos (by rw [List.cons_append]; exact kt hc _), hw, List.take_left, List.drop_left, h2, gJ (by decide)]
        simp
      rw [ht]
      simp
  · split
    · rename_i o ho
      intro _ a' r'
      exact pN o (List.mem_of_find?_eq_some ho) a' r'
    · intro h; cases h
theorem fQ : ∀ (f : Nat) (acc : List Tok) (a : Nat) (r : List UInt8), (∀ t ∈ acc, kq t) → ∀ t ∈ (cM f acc a r).1, kq t
  | 0, acc, _, _, h => h
  | f + 1, acc, a, [], h => h
  | f + 1, acc, a, c :: r, h => by
    simp only [cM]
    split
    · exact fQ f _ _ _ h
    · rename_i t ht
      exact fQ f _ _ _ fun x hx => by
        rcases List.mem_append.1 hx with hx | hx
        · exact h x hx
        · rw [List.mem_singleton.1 hx]; exact oL ht
    · exact fun t ht => by simp at ht
theorem l8 (l : List UInt8) : ∀ t ∈ (cg l).1, kq t := by
  unfold cg
  split
  · exact fun t ht => by simp at ht
  · exact fQ _ _ _ _ fun t ht => by simp at ht
def ca (l : List Tok) : List UInt8 := l.flatMap fun t => t.text ++ [32]
def gM : Nat → List Tok → List Tok
  | _, [] => []
  | a, t :: r => ⟨t.kind, a, t.text⟩ :: gM (a + (t.text.length + 1)) r
theorem ou {acc : List Tok} {a : Nat} {c : UInt8} {r : List UInt8} (h : blanksL.contains c = true) : ee acc a (c :: r) = ee acc (a + 1) r := by
  have h1 : be blanksL (c :: r) = be blanksL r + 1 := by
    unfold be; rw [List.takeWhile_cons, if_pos h]; rfl
  have hst : cx a (c :: r) = .skip (be blanksL r + 1) := by
    unfold cx; rw [if_pos (by omega), h1]
  rw [eW (by simp) hst, List.drop_succ_cons]
  by_cases h2 : 0 < be blanksL r
  · have hst2 : cx (a + 1) r = .skip (be blanksL r) := if_pos h2
    rw [eW (a := a + 1) (by have := eM blanksL r; omega) hst2, Nat.add_assoc, Nat.add_comm 1]
  · have : be blanksL r = 0 := by omega
    rw [this, List.drop_zero]
theorem ju : ∀ (l : List Tok) (acc : List Tok) (a : Nat) (r : List UInt8), (∀ t ∈ l, kq t) → ee acc a (ca l ++ r) = ee (acc ++ gM a l) (a + (ca l).length) r
  | [], acc, a, r, _ => by simp [ca, gM]
  | t :: l, acc, a, r, h => by
    obtain ⟨h0, h1⟩ := h t (by simp)
    have e : ca (t :: l) ++ r = t.text ++ 32 :: (ca l ++ r) := by simp [ca]
    rw [e, kw (t := ⟨t.kind, a, t.text⟩) (by simp only [List.length_append, List.length_cons]; omega) (h1 a _)]
    simp only
    rw [List.drop_left, ou (by decide), ju l _ _ r fun x hx => h x (by simp [hx])]
    have h2 : (ca (t :: l)).length = t.text.length + 1 + (ca l).length := by simp only [ca, List.flatMap_cons, List.length_append, List.length_cons, List.length_nil]
    rw [h2, gM, List.append_assoc]
    simp only [List.singleton_append]
    congr 1
    omega
theorem pR : ∀ (l : List Tok) (a : Nat), (gM a l).map (fun t => (t.kind, t.text)) = l.map fun t => (t.kind, t.text)
  | [], _ => rfl
  | t :: l, a => by rw [gM, List.map_cons, List.map_cons, pR l]
theorem m5 {l : List Tok} (h : ∀ t ∈ l, kq t) (hl : (ca l).length ≤ 65536) : cg (ca l) = (gM 0 l, 0, -1) := by
  unfold cg
  rw [if_neg (by omega)]
  have := ju l [] 0 [] h
  rw [List.append_nil, ky, List.nil_append] at this
  exact this
end Go.Proofs.YtpkcgdikbjaoaaaDoor
namespace Go.Proofs.YtpkcgdikbjaoaaaDoor
set_option linter.unusedSimpArgs false
set_option linter.unusedVariables false
open Go.RowKit
def Tok.er (t : Tok) : Tok := ⟨t.kind, 0, t.text⟩
theorem oU {t : Tok} (h : jF t) : jF t.er := h
def erE : Option (Int × Nat) → Option (Int × Nat)
  | none => none
  | some (_, e) => some (0, e)
def PS.er (s : PS) : PS := ⟨s.l.map Tok.er, 0, s.depth, erE s.err, fun t h => by
  obtain ⟨u, hu, rfl⟩ := List.mem_map.1 h
  exact oU (s.ok u hu), by rw [List.length_map]; exact s.short⟩
theorem hJ {s r : PS} (h1 : s.l = r.l) (h2 : s.end0 = r.end0) (h3 : s.depth = r.depth) (h4 : s.err = r.err) : s = r := by
  cases s; cases r; simp_all
theorem nc {s : PS} : s.er.err = none ↔ s.err = none := by
  unfold PS.er erE; cases s.err <;> simp
theorem dG (s : PS) (w : Wd) : s.er.is w = s.is w := by
  obtain ⟨l, e0, d, er, ok, sh⟩ := s
  unfold PS.is PS.er
  cases er <;> cases l <;> rfl
theorem kL (s : PS) (k : Nat) : s.er.kind k = s.kind k := by
  obtain ⟨l, e0, d, er, ok, sh⟩ := s
  unfold PS.kind PS.er
  cases er <;> cases l <;> rfl
theorem pB (s : PS) : s.er.times = s.times := by
  obtain ⟨l, e0, d, er, ok, sh⟩ := s
  unfold PS.times PS.er
  rcases l with _ | ⟨a, _ | ⟨b, r⟩⟩ <;> rfl
theorem kg (s : PS) : s.er.err.isNone = s.err.isNone := by
  unfold PS.er erE; cases s.err <;> rfl
theorem mZ (s : PS) : s.er.l.isEmpty = s.l.isEmpty := by
  obtain ⟨l, e0, d, er, ok, sh⟩ := s
  cases l <;> rfl
theorem tQ (s : PS) : s.er.at = 0 := by
  obtain ⟨l, e0, d, er, ok, sh⟩ := s
  cases l <;> rfl
theorem dh (s : PS) : s.er.drop = s.drop.er := hJ (by simp [PS.drop, PS.er]) rfl rfl rfl
theorem fb (s : PS) (e : Nat) : s.er.fail e = (s.fail e).er := by
  have h := tQ s
  obtain ⟨l, e0, d, er, ok, sh⟩ := s
  cases er with
  | none => exact hJ rfl rfl rfl (by show some (PS.at _, e) = _; rw [h]; rfl)
  | some x => exact hJ rfl rfl rfl rfl
theorem db : ∀ (ws : List Wd) (s : PS), s.er.due ws = (s.due ws).er
  | [], s => rfl
  | w :: r, s => by
    unfold PS.due; rw [dG, dh, db r, fb]; split <;> rfl
theorem mb (s : PS) : s.er.enter = s.enter.er := by
  unfold PS.enter
  rw [show s.er.depth = s.depth from rfl, fb]
  split
  · rfl
  · exact hJ rfl rfl rfl rfl
theorem eH (s : PS) : s.er.leave = s.leave.er := hJ rfl rfl rfl rfl
theorem g4 (s : PS) (w : Wd) : s.er.open' w = (s.open' w).er := by
  unfold PS.open'
  rw [dG, mb]
  split <;> rw [db]
theorem rE (s : PS) (w : Wd) : (s.er.take w).2 = (s.take w).2.er := by
  unfold PS.take; rw [dG, dh]; split <;> rfl
def Er {α : Type} (g : PS → α × PS) : Prop := ∀ s, g s.er = ((g s).1, (g s).2.er)
theorem Er.a {α : Type} {g : PS → α × PS} (h : Er g) (s : PS) : (g s.er).1 = (g s).1 := by rw [h]
theorem Er.b {α : Type} {g : PS → α × PS} (h : Er g) (s : PS) : (g s.er).2 = (g s).2.er := by rw [h]
theorem rN (s : PS) : (s.er.l.headD jt).text = (s.l.headD jt).text := by
  obtain ⟨l, e0, d, er, ok, sh⟩ := s
  cases l <;> rfl
theorem gD (k : Nat) : Er (fun s => s.word k) := fun s => by
  simp only
  unfold PS.word; rw [kL, dh, fb, rN]; split <;> rfl
theorem jM (s : PS) (k : Nat) : (s.er.word k).1 = (s.word k).1 := (gD k).a s
theorem jG (s : PS) (k : Nat) : (s.er.word k).2 = (s.word k).2.er := (gD k).b s
theorem qg (s : PS) : s.er.number.1 = s.number.1 := by unfold PS.number; rw [jM]
theorem qb (s : PS) : s.er.number.2 = s.number.2.er := by unfold PS.number; rw [jG]
theorem jQ {α : Type} {w : Wd} {g : PS → α × PS} (hg : Er g) : ∀ (f : Nat) (out : List α), Er (eq w g f out)
  | 0, out => fun s => rfl
  | f + 1, out => fun s => by
    unfold eq; rw [dG, dh, hg.a, hg.b, jQ hg f]; split <;> rfl
theorem iW {α : Type} {w : Wd} {mk : α → α → α} {g : PS → α × PS} (hg : Er g) : ∀ (f : Nat) (out : α), Er (dE w mk g f out)
  | 0, out => fun s => rfl
  | f + 1, out => fun s => by
    unfold dE; rw [dG, dh, hg.a, hg.b, iW hg f]; split <;> rfl
theorem l5 (u : Wd) : Er (fun s => s.names u) := fun s => by
  simp only
  unfold PS.names; rw [dG, jM, jG, jQ (gD 1)]; split <;> rfl
theorem j6 {g : PS → Ex × PS} (hg : Er g) : ∀ (f : Nat) (out : Ex), Er (eo g f out)
  | 0, out => fun s => rfl
  | f + 1, out => fun s => by
    unfold eo; rw [dG, dG, dh, hg.a, hg.b, j6 hg f]; split <;> rfl
theorem jv {g : PS → Ex × PS} (hg : Er g) : Er (gk g) := fun s => by
  unfold gk; rw [hg.a, hg.b, j6 hg]
theorem mX {g : PS → Ex × PS} (hg : Er g) (z : Int) : Er (cY g z) := fun s => by
  unfold cY
  simp only [pB]
  split
  · simp only [mb, qg, qb, db, hg.a, hg.b, eH]
  · simp only [qg, qb]
theorem oQ {g : PS → Ex × PS} (hg : Er g) : Er (gQ g) := fun s => by
  unfold gQ
  simp only [dG, rE, kL]
  split
  · rw [fb]
  split
  · exact mX hg _ _
  split
  · simp only [g4, (jv hg).a, (jv hg).b, db, eH]
  · simp only [jM, jG]
theorem lV : ∀ f, Er (j7 f)
  | 0 => fun s => rfl
  | f + 1 => oQ (lV f)
theorem er_expr : Er cb := jv (lV FU)
theorem mw (u : Wd) : Er (fun s => s.exprs u) := fun s => by
  simp only
  unfold PS.exprs; rw [dG, er_expr.a, er_expr.b, jQ er_expr]; split <;> rfl
theorem kO {g : PS → Co × PS} (hg : Er g) : Er (i4 g) := fun s => by
  unfold i4; rw [hg.a, hg.b, iW hg]
theorem jp {g : PS → Co × PS} (hg : Er g) : Er (gj g) := fun s => by
  unfold gj; rw [(kO hg).a, (kO hg).b, iW (kO hg)]
theorem er_cmp : Er PS.cmp := fun s => by
  unfold PS.cmp
  simp only [dG, dh, fb]
  repeat' split
  all_goals rfl
theorem ix {g : PS → Co × PS} (hg : Er g) : Er (dm g) := fun s => by
  unfold dm
  simp only [g4, (jp hg).a, (jp hg).b, db, eH]
theorem rc {g : PS → Co × PS} (hg : Er g) : Er (kU g) := fun s => by
  unfold kU
  simp only [dG, g4, hg.a, hg.b, eH, dh, er_expr.a, er_expr.b, er_cmp.a, er_cmp.b]
  split
  · rfl
  split
  · exact ix hg s
  split
  · rfl
  split <;> rfl
theorem k8 : ∀ f, Er (mV f)
  | 0 => fun s => rfl
  | f + 1 => rc (k8 f)
theorem er_cond : Er eF := jp (k8 FU)
theorem er_bracket : Er dS := ix (k8 FU)
theorem m4 (s : PS) : s.er.place.1 = s.place.1 := by unfold PS.place; simp only [er_expr.a]
theorem mT (s : PS) : s.er.place.2.1 = s.place.2.1 := by unfold PS.place; simp only [er_expr.b, db, jM]
theorem m8 (s : PS) : s.er.place.2.2 = s.place.2.2.er := by unfold PS.place; simp only [er_expr.b, db, jG]
theorem il {g : PS → As × PS} (hg : Er g) (a b : Wd) : Er (cZ g a b) := fun s => by
  unfold cZ
  simp only [g4, hg.a, hg.b, db, eH]
theorem lY {g : PS → As × PS} (hg : Er g) : Er (fK g) := fun s => by
  unfold fK; rw [hg.a, hg.b, iW hg]
theorem kR (b : Bool) : Er (fun s => s.cell b) := fun s => by
  simp only
  unfold PS.cell
  simp only [db, m4, mT, m8, qg, qb, er_expr.a, er_expr.b]
  split <;> rfl
theorem pQ {g : PS → As × PS} (hg : Er g) : Er (g6 g) := fun s => by
  unfold g6
  simp only [dG, dh, er_bracket.a, er_bracket.b, (kR _).a, (kR _).b, er_cond.a, er_cond.b, (il hg _ _).a, (il hg _ _).b, db, fb]
  split
  · rfl
  split
  · rfl
  split
  · exact kR _ _
  split
  · rfl
  split
  · exact il hg _ _ _
  · rfl
theorem l7 : ∀ f, Er (j9 f)
  | 0 => fun s => rfl
  | f + 1 => pQ (lY (l7 f))
theorem er_assn : Er fA := lY (l7 FU)
theorem er_call : Er PS.call := fun s => by
  unfold PS.call
  simp only [db, jM, jG, (mw _).a, (mw _).b]
theorem er_set : Er PS.set := fun s => by
  unfold PS.set
  simp only [jM, jG, db, dG, dh, m4, mT, m8, (jQ (gD 1) _ _).a, (jQ (gD 1) _ _).b, er_call.a, er_call.b, er_expr.a, er_expr.b]
  split
  · rfl
  split
  · rfl
  split <;> rfl
theorem hX {g : PS → St × PS} (hg : Er g) : ∀ (f : Nat) (out : List St), Er (dy g f out)
  | 0, out => fun s => rfl
  | f + 1, out => fun s => by
    unfold dy; rw [dG, kg, hg.a, hg.b, hX hg f]; split <;> rfl
theorem kD {g : PS → St × PS} (hg : Er g) : Er (eN g) := fun s => by
  unfold eN
  simp only [g4, (hX hg _ _).a, (hX hg _ _).b, db, eH]
theorem ql {g : PS → List St × PS} (hg : Er g) : Er (fC g) := fun s => by
  unfold fC
  simp only [dG, kL, dh, db, m4, mT, m8, er_expr.a, er_expr.b, er_cond.a, er_cond.b, er_call.a, er_call.b, er_set.a, er_set.b, hg.a, hg.b, er_assn.a, er_assn.b, fb]
  split
  · rfl
  split
  · rfl
  split
  · rfl
  split
  · rfl
  split
  · rfl
  split
  · rfl
  split
  · rfl
  split <;> rfl
theorem lX : ∀ f, Er (jC f)
  | 0 => fun s => rfl
  | f + 1 => ql (kD (lX f))
theorem er_block : Er eX := kD (lX FU)
theorem er_proc : Er PS.proc := fun s => by
  unfold PS.proc
  simp only [db, jM, jG, (l5 _).a, (l5 _).b, er_assn.a, er_assn.b, er_block.a, er_block.b]
theorem hS : ∀ (f : Nat) (out : List Pc), Er (dW f out)
  | 0, out => fun s => rfl
  | f + 1, out => fun s => by
    unfold dW; rw [kg, mZ, er_proc.a, er_proc.b, hS f]; split <;> rfl
theorem qj {a b : Wd} (h : (cg a).1.map Tok.er = (cg b).1.map Tok.er) : (cH a).1 = (cH b).1 ∧ ((cH a).2.err = none ↔ (cH b).2.err = none) := by
  have h1 : (dB a).er = (dB b).er := hJ h rfl rfl rfl
  have ha := hS FU [] (dB a)
  have hb := hS FU [] (dB b)
  rw [h1, hb] at ha
  unfold cH
  have h2 := congrArg Prod.fst ha
  have h3 := congrArg Prod.snd ha
  simp only at h2 h3
  exact ⟨h2.symm, by rw [← nc, ← nc (s := (dW FU [] (dB b)).2), h3]⟩
end Go.Proofs.YtpkcgdikbjaoaaaDoor

/- The document's reader, as functions of its state. No program is in sight, but for the trees. The document's reader, as functions of its state: conditions. No program is in sight, but for the trees. The document's reader, as functions of its state: assertions, statements. No program is in sight, but for the trees. The document's reader, as functions of its state: statements, programs. No program is in sight, but for the trees. The document's reader: what is left to take behind a statement. No program is in sight, but for the trees. The document's reader leaves its tokens as they are. No program is in sight. The parser and the document's reader, side by side: tokens, expressions. No program is in sight. The parser and the document's reader, side by side: expressions, conditions. No program is in sight. The parser and the document's reader, side by side: assertions, statements, programs. No program is in sight. -/
import Derived.Test.YtpkcgdikbjaoaaaGreatDoorZ24
import Derived.Test.YtpkcgdikbjaoaaaGreatDoorZ12
import Derived.Test.YtpkcgdikbjaoaaaGreatDoorZ21
namespace Go.Proofs.YtpkcgdikbjaoaaaGreatDoor
set_option linter.unusedSimpArgs false
set_option linter.unusedVariables false
open Go.RowKit
def RS.mu (r : RS) : Nat := if r.bad = 0 then r.l.length - r.i + 1 else 0
theorem fS (r : RS) : r.mu < FU := by
  have := r.short
  unfold RS.mu FU; split <;> omega
theorem fF (r : RS) {e : Nat} (he : e ≠ 0) : (r.amiss e).mu ≤ r.mu := by
  obtain ⟨l, e0, i, d, bad, a0, ok, sh, hi⟩ := r
  cases bad with
  | zero => unfold RS.amiss RS.mu; simp [he]
  | succ n => exact Nat.le_refl _
theorem da (r : RS) : r.bump.mu ≤ r.mu := by
  unfold RS.bump; split
  · unfold RS.mu; simp only; split <;> omega
  · exact Nat.le_refl _
theorem mE {r : RS} (hb : r.bad = 0) {t : Tok} (ht : r.tok = some t) : r.bump.mu + 1 = r.mu := by
  obtain ⟨h, _⟩ := eY ht
  unfold RS.bump
  rw [dif_pos h]
  unfold RS.mu
  simp only [hb, if_true]
  omega
theorem cO {r : RS} {w : Wd} (hw : w ≠ []) (h : r.next = w) : r.bump.mu + 1 = r.mu := by
  obtain ⟨hb, t, ht, _⟩ := cA hw h
  exact mE hb ht
theorem cr (r : RS) (w : Wd) : (r.eat w).mu ≤ r.mu := by
  unfold RS.eat; split
  · exact da r
  · exact fF r (by decide)
theorem vO (r : RS) : r.down.mu = r.mu := rfl
theorem AA (r : RS) : r.up.mu = r.mu := rfl
theorem iR (r : RS) : r.deeper.mu ≤ r.mu := by
  unfold RS.deeper
  rw [vO]
  split
  · exact fF r (by decide)
  · exact Nat.le_refl _
theorem eK (r : RS) (w : Wd) : (r.begin w).mu ≤ r.mu := by
  unfold RS.begin
  refine Nat.le_trans (cr _ _) ?_
  split
  · exact iR r
  · exact Nat.le_refl _
theorem fI (r : RS) (w : Wd) : (r.finish w).mu ≤ r.mu := cr r w
theorem eu (r : RS) (k : Nat) : (r.text k).2.mu ≤ r.mu := by
  unfold RS.text; split
  · exact da r
  · exact fF r (by decide)
theorem lz {r : RS} {k : Nat} (hk : k ≠ 0) (h : r.kind = k) : (r.text k).2.mu < r.mu := by
  obtain ⟨hb, t, ht, _⟩ := jb hk h
  have := mE hb ht
  unfold RS.text; rw [if_pos h]; simp only; omega
theorem lL {r : RS} (h : r.bad ≠ 0) : r.mu = 0 := if_neg h
theorem gi {r : RS} {w : Wd} (hw : w ≠ []) (h : r.next = w) : (r.begin w).mu < r.mu := by
  have h0 := cO hw h
  obtain ⟨hb, t, ht, htw, hk⟩ := cA hw h
  unfold RS.begin
  rw [if_pos h]
  by_cases hd : r.depth = 50
  · have hz : r.deeper.mu = 0 := by
      apply lL
      unfold RS.deeper
      rw [if_pos hd]
      unfold RS.down RS.amiss
      rw [hb]
      simp
    have := cr r.deeper w
    omega
  · have hn : r.deeper.next = w := by
      unfold RS.deeper
      rw [if_neg hd]
      exact h
    have h1 := cO hw hn
    have h2 := iR r
    unfold RS.eat
    rw [if_pos hn]
    omega
def RS.number (r : RS) : Int × RS := (im (r.text 3).1, (r.text 3).2)
theorem iM (r : RS) : r.number.2.mu ≤ r.mu := eu r 3
def iD {α : Type} (w : Wd) (g : RS → α × RS) : Nat → List α → RS → List α × RS
  | 0, out, r => (out, r)
  | f + 1, out, r => if r.next = w then iD w g f (out ++ [(g r.bump).1]) (g r.bump).2 else (out, r)
def fL {α : Type} (w : Wd) (mk : α → α → α) (g : RS → α × RS) : Nat → α → RS → α × RS
  | 0, out, r => (out, r)
  | f + 1, out, r => if r.next = w then fL w mk g f (mk out (g r.bump).1) (g r.bump).2 else (out, r)
theorem oC {α : Type} {w : Wd} {g : RS → α × RS} (hg : ∀ r, (g r).2.mu ≤ r.mu) : ∀ (f : Nat) (out : List α) (r : RS), (iD w g f out r).2.mu ≤ r.mu
  | 0, out, r => Nat.le_refl _
  | f + 1, out, r => by
    unfold iD; split
    · exact Nat.le_trans (oC hg f _ _) (Nat.le_trans (hg _) (da r))
    · exact Nat.le_refl _
theorem km {α : Type} {w : Wd} {mk : α → α → α} {g : RS → α × RS} (hg : ∀ r, (g r).2.mu ≤ r.mu) : ∀ (f : Nat) (out : α) (r : RS), (fL w mk g f out r).2.mu ≤ r.mu
  | 0, out, r => Nat.le_refl _
  | f + 1, out, r => by
    unfold fL; split
    · exact Nat.le_trans (km hg f _ _) (Nat.le_trans (hg _) (da r))
    · exact Nat.le_refl _
def RS.names (r : RS) (least : Nat) : List Wd × RS := if least = 0 ∧ r.kind ≠ 1 then ([], r) else iD [44] (fun r => r.text 1) FU [(r.text 1).1] (r.text 1).2
theorem lg (r : RS) (n : Nat) : (r.names n).2.mu ≤ r.mu := by
  unfold RS.names; split
  · exact Nat.le_refl _
  · exact Nat.le_trans (oC (fun r => eu r 1) _ _ _) (eu r 1)
def fz (prod : RS → Ex × RS) : Nat → Ex → RS → Ex × RS
  | 0, e, r => (e, r)
  | f + 1, e, r => if r.next = [43] ∨ r.next = [45] then fz prod f (.mk (if r.next = [45] then 3 else 2) 0 [] [e, (prod r.bump).1]) (prod r.bump).2 else (e, r)
def gw (prod : RS → Ex × RS) (r : RS) : Ex × RS := fz prod FU (prod r).1 (prod r).2
def RS.times (r : RS) : Bool := match r.l[r.i + 1]? with
  | some t => t.text == [42]
  | none => false
def fV (prod : RS → Ex × RS) (r : RS) : Ex × RS :=
  let m := r.next = [45]
  let r1 := if m then r.bump else r
  if r1.kind = 3 then
    let r2 := if r1.times then r1.deeper else r1
    let n := if m then IntKind.i64.wrap (0 - r2.number.1) else r2.number.1
    if r1.times then
      let p := prod (r2.number.2.eat [42])
      (.mk 4 n [] [p.1], p.2.up)
    else (.mk 0 n [] [], r2.number.2)
  else if ¬ m ∧ r1.next = [40] then
    let p := gw prod (r1.begin [40])
    (p.1, p.2.finish [41])
  else
    let r6 := if m then r1.amiss 11 else r1
    (.mk 1 0 (r6.text 1).1 [], (r6.text 1).2)
def kW : Nat → RS → Ex × RS
  | 0, r => (exZ, r)
  | f + 1, r => fV (kW f) r
def cy (r : RS) : Ex × RS := gw (kW FU) r
theorem mP {g : RS → Ex × RS} (hg : ∀ r, (g r).2.mu ≤ r.mu) : ∀ (f : Nat) (out : Ex) (r : RS), (fz g f out r).2.mu ≤ r.mu
  | 0, out, r => Nat.le_refl _
  | f + 1, out, r => by
    unfold fz; split
    · exact Nat.le_trans (mP hg f _ _) (Nat.le_trans (hg _) (da r))
    · exact Nat.le_refl _
theorem np {g : RS → Ex × RS} (hg : ∀ r, (g r).2.mu ≤ r.mu) (r : RS) : (gw g r).2.mu ≤ r.mu := Nat.le_trans (mP hg _ _ _) (hg r)
theorem tJ {g : RS → Ex × RS} (hg : ∀ r, (g r).2.mu ≤ r.mu) (r : RS) : (fV g r).2.mu ≤ r.mu := by
  unfold fV
  simp only
  have h1 : (if r.next = [45] then r.bump else r).mu ≤ r.mu := by
    by_cases h : r.next = [45]
    · rw [if_pos h]; exact da r
    · rw [if_neg h]; exact Nat.le_refl _
  generalize (if r.next = [45] then r.bump else r) = r1 at *
  refine Nat.le_trans ?_ h1
  by_cases hk : r1.kind = 3
  · rw [if_pos hk]
    by_cases ht : r1.times = true
    · simp only [ht, if_true]
      exact Nat.le_trans (hg _) (Nat.le_trans (cr _ _) (Nat.le_trans (iM _) (iR r1)))
    · simp only [ht]
      exact iM r1
  · rw [if_neg hk]
    by_cases h2 : ¬ r.next = [45] ∧ r1.next = [40]
    · rw [if_pos h2]
      exact Nat.le_trans (fI _ _) (Nat.le_trans (np hg _) (eK _ _))
    · rw [if_neg h2]
      simp only
      refine Nat.le_trans (eu _ _) ?_
      by_cases h : r.next = [45]
      · rw [if_pos h]; exact fF _ (by decide)
      · rw [if_neg h]; exact Nat.le_refl _
theorem jC : ∀ (f : Nat) (r : RS), (kW f r).2.mu ≤ r.mu
  | 0, r => Nat.le_refl _
  | f + 1, r => tJ (jC f) r
theorem dP (r : RS) : (cy r).2.mu ≤ r.mu := np (jC FU) r
def RS.exprs (r : RS) (u : Wd) : List Ex × RS := if r.next = u then ([], r) else iD [44] cy FU [(cy r).1] (cy r).2
theorem nG (r : RS) (u : Wd) : (r.exprs u).2.mu ≤ r.mu := by
  unfold RS.exprs; split
  · exact Nat.le_refl _
  · exact Nat.le_trans (oC dP _ _ _) (dP r)
end Go.Proofs.YtpkcgdikbjaoaaaGreatDoor
namespace Go.Proofs.YtpkcgdikbjaoaaaGreatDoor
set_option linter.unusedSimpArgs false
set_option linter.unusedVariables false
open Go.RowKit
def jr (one : RS → Co × RS) (r : RS) : Co × RS := fL [38, 38] (fun a b => .mk 7 [] [a, b]) one FU (one r).1 (one r).2
def gX (one : RS → Co × RS) (r : RS) : Co × RS := fL [124, 124] (fun a b => .mk 8 [] [a, b]) (jr one) FU (jr one r).1 (jr one r).2
def RS.cmp (r : RS) : Nat × RS :=
  if r.next = [61, 61] then (2, r.bump) else if r.next = [33, 61] then (3, r.bump) else if r.next = [60] then (4, r.bump) else if r.next = [60, 61] then (5, r.bump) else (0, r.amiss 11)
def kH (one : RS → Co × RS) (r : RS) : Co × RS :=
  if r.next = [33] then
    let p := one (r.begin [33])
    (.mk 6 [] [p.1], p.2.up)
  else if r.next = [91] then
    let p := gX one (r.begin [91])
    (p.1, p.2.finish [93])
  else if r.next = [116, 114, 117, 101] then (coZ, r.bump)
  else if r.next = [102, 97, 108, 115, 101] then (.mk 1 [] [], r.bump)
  else
    let p := cy r
    let c := p.2.cmp
    let q := cy c.2
    (.mk c.1 [p.1, q.1] [], q.2)
def oa : Nat → RS → Co × RS
  | 0, r => (coZ, r)
  | f + 1, r => kH (oa f) r
def ei (r : RS) : Co × RS := gX (oa FU) r
theorem x7 (r : RS) : r.cmp.2.mu ≤ r.mu := by
  unfold RS.cmp
  repeat' split
  all_goals first | exact da r | exact fF r (by decide)
theorem mK {g : RS → Co × RS} (hg : ∀ r, (g r).2.mu ≤ r.mu) (r : RS) : (jr g r).2.mu ≤ r.mu := Nat.le_trans (km hg _ _ _) (hg r)
theorem nn {g : RS → Co × RS} (hg : ∀ r, (g r).2.mu ≤ r.mu) (r : RS) : (gX g r).2.mu ≤ r.mu := Nat.le_trans (km (mK hg) _ _ _) (mK hg r)
theorem vU {g : RS → Co × RS} (hg : ∀ r, (g r).2.mu ≤ r.mu) (r : RS) : (kH g r).2.mu ≤ r.mu := by
  unfold kH
  simp only
  split
  · exact Nat.le_trans (hg _) (eK _ _)
  split
  · exact Nat.le_trans (fI _ _) (Nat.le_trans (nn hg _) (eK _ _))
  split
  · exact da r
  split
  · exact da r
  · exact Nat.le_trans (dP _) (Nat.le_trans (x7 _) (dP r))
theorem kT : ∀ (f : Nat) (r : RS), (oa f r).2.mu ≤ r.mu
  | 0, r => Nat.le_refl _
  | f + 1, r => vU (kT f) r
theorem eM (r : RS) : (ei r).2.mu ≤ r.mu := nn (kT FU) r
end Go.Proofs.YtpkcgdikbjaoaaaGreatDoor
namespace Go.Proofs.YtpkcgdikbjaoaaaGreatDoor
set_option linter.unusedSimpArgs false
set_option linter.unusedVariables false
open Go.RowKit
def gj (assn : RS → As × RS) (a b : Wd) (r : RS) : As × RS :=
  let p := assn (r.begin a)
  (p.1, p.2.finish b)
def gE (item : RS → As × RS) (r : RS) : As × RS := fL [38] (fun a b => .mk 4 coZ exZ exZ [] 0 [a, b]) item FU (item r).1 (item r).2
def RS.cell (r : RS) (pts : Bool) : As × RS :=
  let p := cy (r.eat [40])
  let f := (p.2.eat [46]).text 1
  let q := (f.2.eat [44]).number
  if pts then
    let v := cy (q.2.eat [44])
    (.mk 3 coZ p.1 v.1 f.1 q.1 [], v.2.eat [41])
  else (.mk 2 coZ p.1 exZ f.1 q.1 [], q.2.eat [41])
def iG (assn : RS → As × RS) (r : RS) : As × RS :=
  if r.next = [101, 109, 112] then (asZ, r.bump)
  else if r.next = [91] then
    let c := ei (r.begin [91])
    (.mk 1 c.1 exZ exZ [] 0 [], c.2.finish [93])
  else if r.next = [97, 99, 99] then r.bump.cell false
  else if r.next = [112, 116, 115] then r.bump.cell true
  else if r.next = [105, 102] then
    let c := ei r.bump
    let x := gj assn [123] [125] c.2
    let y := gj assn [123] [125] (x.2.eat [101, 108, 115, 101])
    (.mk 5 c.1 exZ exZ [] 0 [x.1, y.1], y.2)
  else if r.next = [40] then gj assn [40] [41] r
  else (asZ, r.amiss 11)
def kU : Nat → RS → As × RS
  | 0, r => (asZ, r)
  | f + 1, r => iG (gE (kU f)) r
def fj (r : RS) : As × RS := gE (kU FU) r
theorem lk {g : RS → As × RS} (hg : ∀ r, (g r).2.mu ≤ r.mu) (r : RS) : (gE g r).2.mu ≤ r.mu := Nat.le_trans (km hg _ _ _) (hg r)
theorem j7 {g : RS → As × RS} (hg : ∀ r, (g r).2.mu ≤ r.mu) (a b : Wd) (r : RS) : (gj g a b r).2.mu ≤ r.mu :=
  Nat.le_trans (fI _ _) (Nat.le_trans (hg _) (eK _ _))
theorem ql (r : RS) (b : Bool) : (r.cell b).2.mu ≤ r.mu := by
  unfold RS.cell
  have h1 := Nat.le_trans (dP (r.eat [40])) (cr r [40])
  generalize cy (r.eat [40]) = p at *
  have h2 := Nat.le_trans (eu (p.2.eat [46]) 1) (Nat.le_trans (cr p.2 [46]) h1)
  simp only
  generalize (p.2.eat [46]).text 1 = f at *
  have h3 := Nat.le_trans (iM (f.2.eat [44])) (Nat.le_trans (cr f.2 [44]) h2)
  generalize (f.2.eat [44]).number = q at *
  cases b
  · exact Nat.le_trans (cr q.2 [41]) h3
  · have h4 := dP (q.2.eat [44])
    have h5 := cr q.2 [44]
    simp only [if_true]
    generalize cy (q.2.eat [44]) = v at *
    have h6 := cr v.2 [41]
    omega
theorem tK {g : RS → As × RS} (hg : ∀ r, (g r).2.mu ≤ r.mu) (r : RS) : (iG g r).2.mu ≤ r.mu := by
  unfold iG
  simp only
  split
  · exact da r
  split
  · exact Nat.le_trans (fI _ _) (Nat.le_trans (eM _) (eK _ _))
  split
  · exact Nat.le_trans (ql _ _) (da r)
  split
  · exact Nat.le_trans (ql _ _) (da r)
  split
  · exact Nat.le_trans (j7 hg _ _ _) (Nat.le_trans (cr _ _) (Nat.le_trans (j7 hg _ _ _) (Nat.le_trans (eM _) (da r))))
  split
  · exact j7 hg _ _ _
  · exact fF _ (by decide)
theorem jL : ∀ (f : Nat) (r : RS), (kU f r).2.mu ≤ r.mu
  | 0, r => Nat.le_refl _
  | f + 1, r => tK (lk (jL f)) r
theorem jG (r : RS) : (fj r).2.mu ≤ r.mu := lk (jL FU) r
end Go.Proofs.YtpkcgdikbjaoaaaGreatDoor
namespace Go.Proofs.YtpkcgdikbjaoaaaGreatDoor
set_option linter.unusedSimpArgs false
set_option linter.unusedVariables false
open Go.RowKit
def RS.call (r : RS) (x : Wd) : St × RS :=
  let c := (r.eat [99, 97, 108, 108]).text 1
  let a := (c.2.eat [40]).exprs [59]
  let g := (a.2.eat [59]).exprs [41]
  (.mk 9 x [] c.1 exZ exZ coZ asZ a.1 g.1 [] [] [], g.2.eat [41])
def RS.what (r : RS) (x : Wd) : (Own × Own × Own) × St × RS :=
  if r.next = [103, 101, 116] then
    let p := cy r.bump
    let f := (p.2.eat [46]).text 1
    ((.full, .full, .full), .mk 2 x f.1 [] p.1 exZ coZ asZ [] [] [] [] [], f.2)
  else if r.next = [110, 101, 119] then
    let n := (r.bump.eat [40]).names 1
    ((.full, .full, .none), .mk 4 x [] [] exZ exZ coZ asZ [] [] n.1 [] [], n.2.eat [41])
  else if r.next = [99, 97, 108, 108] then ((.none, .none, .full), (r.call x).1, (r.call x).2)
  else
    let e := cy r
    ((.full, .full, .full), .mk 1 x [] [] e.1 exZ coZ asZ [] [] [] [] [], e.2)
theorem wl (r : RS) (x : Wd) : (r.what x).1 = (.full, .full, .full) ∨ (r.what x).1 = (.full, .full, .none) ∨ (r.what x).1 = (.none, .none, .full) := by
  unfold RS.what
  by_cases h1 : r.next = [103, 101, 116]
  · rw [if_pos h1]; exact .inl rfl
  rw [if_neg h1]
  by_cases h2 : r.next = [110, 101, 119]
  · rw [if_pos h2]; exact .inr (.inl rfl)
  rw [if_neg h2]
  by_cases h3 : r.next = [99, 97, 108, 108]
  · rw [if_pos h3]; exact .inr (.inr rfl)
  rw [if_neg h3]; exact .inl rfl
def eO (stmt : RS → St × RS) : Nat → List St → RS → List St × RS
  | 0, out, r => (out, r)
  | f + 1, out, r => if r.bad = 0 ∧ ¬ r.next = [125] then eO stmt f (out ++ [(stmt r).1]) (stmt r).2 else (out, r)
def gm (stmt : RS → St × RS) (r : RS) : List St × RS :=
  let p := eO stmt FU [] (r.begin [123])
  (p.1, p.2.finish [125])
def g6 (block : RS → List St × RS) (r : RS) : St × RS :=
  if r.kind = 1 then
    let n := r.text 1
    let w := (n.2.eat [58, 61]).what n.1
    (w.2.1, w.2.2.eat [59])
  else if r.next = [115, 107, 105, 112] then (stZ, r.bump.eat [59])
  else if r.next = [112, 117, 116] then
    let p := cy r.bump
    let f := (p.2.eat [46]).text 1
    let v := cy (f.2.eat [58, 61])
    (.mk 3 [] f.1 [] p.1 v.1 coZ asZ [] [] [] [] [], v.2.eat [59])
  else if r.next = [102, 114, 101, 101] then
    let p := cy r.bump
    let f := (p.2.eat [46]).text 1
    (.mk 5 [] f.1 [] p.1 exZ coZ asZ [] [] [] [] [], f.2.eat [59])
  else if r.next = [97, 115, 115, 101, 114, 116] then
    let c := ei r.bump
    (.mk 8 [] [] [] exZ exZ c.1 asZ [] [] [] [] [], c.2.eat [59])
  else if r.next = [99, 97, 108, 108] then ((r.call []).1, (r.call []).2.eat [59])
  else if r.next = [105, 102] then
    let c := ei r.bump
    let b := block c.2
    let l := block (b.2.eat [101, 108, 115, 101])
    (.mk 6 [] [] [] exZ exZ c.1 asZ [] [] [] b.1 l.1, l.2)
  else if r.next = [119, 104, 105, 108, 101] then
    let c := ei r.bump
    let a := fj (c.2.eat [105, 110, 118, 97, 114, 105, 97, 110, 116])
    let b := block a.2
    (.mk 7 [] [] [] exZ exZ c.1 a.1 [] [] [] b.1 [], b.2)
  else (stZ, (r.amiss 11).eat [59])
def kc : Nat → RS → St × RS
  | 0, r => (stZ, r)
  | f + 1, r => g6 (gm (kc f)) r
def gP (r : RS) : List St × RS := gm (kc FU) r
def RS.proc (r : RS) : Pc × RS :=
  let x := (r.eat [112, 114, 111, 99]).text 1
  let p := (x.2.eat [40]).names 0
  let g := (p.2.eat [59]).names 0
  let a := fj ((g.2.eat [41]).eat [114, 101, 113, 117, 105, 114, 101, 115])
  let b := fj (a.2.eat [101, 110, 115, 117, 114, 101, 115])
  let c := gP b.2
  (⟨x.1, p.1, g.1, a.1, b.1, c.1⟩, c.2)
def gS : Nat → List Pc → RS → List Pc × RS
  | 0, out, r => (out, r)
  | f + 1, out, r => if r.bad = 0 ∧ r.i < r.l.length then gS f (out ++ [r.proc.1]) r.proc.2 else (out, r)
end Go.Proofs.YtpkcgdikbjaoaaaGreatDoor
namespace Go.Proofs.YtpkcgdikbjaoaaaGreatDoor
set_option linter.unusedSimpArgs false
set_option linter.unusedVariables false
open Go.RowKit
theorem mm {r : RS} (h : r.bad = 0) {w : Wd} (hw : w ≠ []) : (r.eat w).mu < r.mu := by
  have h0 : 0 < r.mu := by unfold RS.mu; rw [if_pos h]; omega
  unfold RS.eat
  split
  · rename_i hn
    have := cO hw hn
    omega
  · have : (r.amiss 11).mu = 0 := by
      apply lL
      unfold RS.amiss
      rw [h]
      simp
    omega
theorem qv (r : RS) (x : Wd) : (r.call x).2.mu ≤ (r.eat [99, 97, 108, 108]).mu := by
  unfold RS.call
  generalize r.eat [99, 97, 108, 108] = r1 at *
  have h1 := eu r1 1
  simp only
  generalize r1.text 1 = c at *
  have h2 := nG (c.2.eat [40]) [59]
  have h3 := cr c.2 [40]
  generalize (c.2.eat [40]).exprs [59] = a at *
  have h4 := nG (a.2.eat [59]) [41]
  have h5 := cr a.2 [59]
  generalize (a.2.eat [59]).exprs [41] = g at *
  have h6 := cr g.2 [41]
  omega
theorem uS (r : RS) (x : Wd) : (r.what x).2.2.mu ≤ r.mu := by
  unfold RS.what
  have hb := da r
  by_cases h1 : r.next = [103, 101, 116]
  · rw [if_pos h1]
    have a1 := dP r.bump
    simp only
    generalize cy r.bump = p at *
    have a2 := eu (p.2.eat [46]) 1
    have a3 := cr p.2 [46]
    omega
  rw [if_neg h1]
  by_cases h2 : r.next = [110, 101, 119]
  · rw [if_pos h2]
    have a1 := lg (r.bump.eat [40]) 1
    have a2 := cr r.bump [40]
    simp only
    generalize (r.bump.eat [40]).names 1 = n at *
    have a3 := cr n.2 [41]
    omega
  rw [if_neg h2]
  by_cases h3 : r.next = [99, 97, 108, 108]
  · rw [if_pos h3]
    have a1 := qv r x
    have a2 := cr r [99, 97, 108, 108]
    simp only
    omega
  rw [if_neg h3]
  have a1 := dP r
  simp only
  omega
theorem mq {g : RS → St × RS} (hg : ∀ r, (g r).2.mu ≤ r.mu) : ∀ (f : Nat) (out : List St) (r : RS), (eO g f out r).2.mu ≤ r.mu
  | 0, out, r => Nat.le_refl _
  | f + 1, out, r => by
    unfold eO; split
    · exact Nat.le_trans (mq hg f _ _) (hg _)
    · exact Nat.le_refl _
theorem ir {g : RS → St × RS} (hg : ∀ r, (g r).2.mu ≤ r.mu) (r : RS) : (gm g r).2.mu ≤ r.mu := by
  unfold gm
  have h1 := mq hg FU [] (r.begin [123])
  have h2 := eK r [123]
  simp only
  generalize eO g FU [] (r.begin [123]) = p at *
  have h3 := fI p.2 [125]
  omega
theorem lv {g : RS → List St × RS} (hg : ∀ r, (g r).2.mu ≤ r.mu) (r : RS) : (g6 g r).2.mu ≤ r.mu ∧ (r.bad = 0 → (g6 g r).2.mu < r.mu) := by
  unfold g6
  by_cases h1 : r.kind = 1
  · rw [if_pos h1]
    have a1 := lz (by decide) h1
    simp only
    generalize r.text 1 = n at *
    have a2 := cr n.2 [58, 61]
    have a3 := uS (n.2.eat [58, 61]) n.1
    generalize (n.2.eat [58, 61]).what n.1 = w at *
    have a4 := cr w.2.2 [59]
    exact ⟨by omega, fun _ => by omega⟩
  rw [if_neg h1]
  clear h1
  by_cases h1 : r.next = [115, 107, 105, 112]
  · rw [if_pos h1]
    have a1 := cO (by simp) h1
    have a2 := cr r.bump [59]
    exact ⟨by simp only; omega, fun _ => by simp only; omega⟩
  rw [if_neg h1]
  clear h1
  by_cases h1 : r.next = [112, 117, 116]
  · rw [if_pos h1]
    have a1 := cO (by simp) h1
    have a2 := dP r.bump
    simp only
    generalize cy r.bump = p at *
    have a3 := cr p.2 [46]
    have a4 := eu (p.2.eat [46]) 1
    generalize (p.2.eat [46]).text 1 = f at *
    have a5 := cr f.2 [58, 61]
    have a6 := dP (f.2.eat [58, 61])
    generalize cy (f.2.eat [58, 61]) = v at *
    have a7 := cr v.2 [59]
    exact ⟨by omega, fun _ => by omega⟩
  rw [if_neg h1]
  clear h1
  by_cases h1 : r.next = [102, 114, 101, 101]
  · rw [if_pos h1]
    have a1 := cO (by simp) h1
    have a2 := dP r.bump
    simp only
    generalize cy r.bump = p at *
    have a3 := cr p.2 [46]
    have a4 := eu (p.2.eat [46]) 1
    generalize (p.2.eat [46]).text 1 = f at *
    have a7 := cr f.2 [59]
    exact ⟨by omega, fun _ => by omega⟩
  rw [if_neg h1]
  clear h1
  by_cases h1 : r.next = [97, 115, 115, 101, 114, 116]
  · rw [if_pos h1]
    have a1 := cO (by simp) h1
    have a2 := eM r.bump
    simp only
    generalize ei r.bump = p at *
    have a7 := cr p.2 [59]
    exact ⟨by omega, fun _ => by omega⟩
  rw [if_neg h1]
  clear h1
  by_cases h1 : r.next = [99, 97, 108, 108]
  · rw [if_pos h1]
    have a1 := qv r []
    have a2 := cr r [99, 97, 108, 108]
    have a3 : r.bad = 0 → (r.eat [99, 97, 108, 108]).mu < r.mu := fun h => mm h (by simp)
    simp only
    generalize r.call [] = c at *
    have a7 := cr c.2 [59]
    exact ⟨by omega, fun h => by have := a3 h; omega⟩
  rw [if_neg h1]
  clear h1
  by_cases h1 : r.next = [105, 102]
  · rw [if_pos h1]
    have a1 := cO (by simp) h1
    have a2 := eM r.bump
    simp only
    generalize ei r.bump = c at *
    have a3 := hg c.2
    generalize g c.2 = b at *
    have a4 := cr b.2 [101, 108, 115, 101]
    have a5 := hg (b.2.eat [101, 108, 115, 101])
    generalize g (b.2.eat [101, 108, 115, 101]) = l at *
    exact ⟨by omega, fun _ => by omega⟩
  rw [if_neg h1]
  clear h1
  by_cases h1 : r.next = [119, 104, 105, 108, 101]
  · rw [if_pos h1]
    have a1 := cO (by simp) h1
    have a2 := eM r.bump
    simp only
    generalize ei r.bump = c at *
    have a3 := cr c.2 [105, 110, 118, 97, 114, 105, 97, 110, 116]
    have a4 := jG (c.2.eat [105, 110, 118, 97, 114, 105, 97, 110, 116])
    generalize fj (c.2.eat [105, 110, 118, 97, 114, 105, 97, 110, 116]) = a at *
    have a5 := hg a.2
    generalize g a.2 = b at *
    exact ⟨by omega, fun _ => by omega⟩
  rw [if_neg h1]
  have a1 := fF r (e := 11) (by decide)
  have a2 := cr (r.amiss 11) [59]
  refine ⟨by simp only; omega, fun h => ?_⟩
  have h0 : 0 < r.mu := by unfold RS.mu; rw [if_pos h]; omega
  have hz : (r.amiss 11).mu = 0 := by
    apply lL
    unfold RS.amiss
    rw [h]
    simp
  simp only
  omega
theorem gv : ∀ (f : Nat) (r : RS), (kc f r).2.mu ≤ r.mu
  | 0, r => Nat.le_refl _
  | f + 1, r => (lv (ir (gv f)) r).1
theorem oo : ∀ (f : Nat) (r : RS), r.mu < f → r.bad = 0 → (kc f r).2.mu < r.mu
  | 0, r, h, _ => absurd h (Nat.not_lt_zero _)
  | f + 1, r, _, h => (lv (ir (gv f)) r).2 h
theorem rv (r : RS) : (gP r).2.mu ≤ r.mu := ir (gv FU) r
end Go.Proofs.YtpkcgdikbjaoaaaGreatDoor
namespace Go.Proofs.YtpkcgdikbjaoaaaGreatDoor
set_option linter.unusedSimpArgs false
set_option linter.unusedVariables false
open Go.RowKit
theorem sj (c : Prop) [Decidable c] (a b : RS) : (if c then a else b).l = if c then a.l else b.l := by split <;> rfl
theorem fJ {α : Type} (c : Prop) [Decidable c] (a b : α × RS) : (if c then a else b).2.l = if c then a.2.l else b.2.l := by split <;> rfl
theorem wC {α β : Type} (c : Prop) [Decidable c] (a b : α × β × RS) : (if c then a else b).2.2.l = if c then a.2.2.l else b.2.2.l := by split <;> rfl
theorem gA (r : RS) (e : Nat) : (r.amiss e).l = r.l := by unfold RS.amiss; split <;> rfl
theorem fC (r : RS) : r.bump.l = r.l := by unfold RS.bump; split <;> rfl
theorem iE (r : RS) (w : Wd) : (r.eat w).l = r.l := by simp only [RS.eat, sj, fC, gA, ite_self]
theorem uE (r : RS) : r.up.l = r.l := rfl
theorem xB (r : RS) : r.down.l = r.l := rfl
theorem nV (r : RS) : r.deeper.l = r.l := by simp only [RS.deeper, xB, sj, gA, ite_self]
theorem je (r : RS) (w : Wd) : (r.begin w).l = r.l := by simp only [RS.begin, iE, sj, nV, ite_self]
theorem hI (r : RS) (w : Wd) : (r.finish w).l = r.l := by simp only [RS.finish, uE, iE]
theorem gn (r : RS) (k : Nat) : (r.text k).2.l = r.l := by simp only [RS.text, fJ, fC, gA, ite_self]
theorem n9 (r : RS) : r.number.2.l = r.l := gn r 3
theorem rS {α : Type} {w : Wd} {g : RS → α × RS} (hg : ∀ r, (g r).2.l = r.l) : ∀ (f : Nat) (out : List α) (r : RS), (iD w g f out r).2.l = r.l
  | 0, out, r => rfl
  | f + 1, out, r => by simp only [iD, fJ, rS hg f, hg, fC, ite_self]
theorem lV {α : Type} {w : Wd} {mk : α → α → α} {g : RS → α × RS} (hg : ∀ r, (g r).2.l = r.l) : ∀ (f : Nat) (out : α) (r : RS), (fL w mk g f out r).2.l = r.l
  | 0, out, r => rfl
  | f + 1, out, r => by simp only [fL, fJ, lV hg f, hg, fC, ite_self]
theorem qs (r : RS) (n : Nat) : (r.names n).2.l = r.l := by
  simp only [RS.names, fJ, rS (fun r => gn r 1), gn, ite_self]
theorem nx {g : RS → Ex × RS} (hg : ∀ r, (g r).2.l = r.l) : ∀ (f : Nat) (out : Ex) (r : RS), (fz g f out r).2.l = r.l
  | 0, out, r => rfl
  | f + 1, out, r => by simp only [fz, fJ, nx hg f, hg, fC, ite_self]
theorem qJ {g : RS → Ex × RS} (hg : ∀ r, (g r).2.l = r.l) (r : RS) : (gw g r).2.l = r.l := by simp only [gw, nx hg, hg]
theorem vW {g : RS → Ex × RS} (hg : ∀ r, (g r).2.l = r.l) (r : RS) : (fV g r).2.l = r.l := by
  simp only [fV, fJ, sj, qJ hg, hg, uE, iE, n9, nV, fC, hI, je, gn, gA, ite_self]
theorem qP : ∀ (f : Nat) (r : RS), (kW f r).2.l = r.l
  | 0, r => rfl
  | f + 1, r => vW (qP f) r
theorem jy (r : RS) : (cy r).2.l = r.l := qJ (qP FU) r
theorem u4 (r : RS) (u : Wd) : (r.exprs u).2.l = r.l := by simp only [RS.exprs, fJ, rS jy, jy, ite_self]
theorem yF (r : RS) : r.cmp.2.l = r.l := by simp only [RS.cmp, fJ, fC, gA, ite_self]
theorem ti {g : RS → Co × RS} (hg : ∀ r, (g r).2.l = r.l) (r : RS) : (jr g r).2.l = r.l := by simp only [jr, lV hg, hg]
theorem qh {g : RS → Co × RS} (hg : ∀ r, (g r).2.l = r.l) (r : RS) : (gX g r).2.l = r.l := by simp only [gX, lV (ti hg), ti hg]
theorem xe {g : RS → Co × RS} (hg : ∀ r, (g r).2.l = r.l) (r : RS) : (kH g r).2.l = r.l := by
  simp only [kH, fJ, hg, qh hg, uE, je, hI, fC, jy, yF, ite_self]
theorem sU : ∀ (f : Nat) (r : RS), (oa f r).2.l = r.l
  | 0, r => rfl
  | f + 1, r => xe (sU f) r
theorem tu (r : RS) : (ei r).2.l = r.l := qh (sU FU) r
theorem tY {g : RS → As × RS} (hg : ∀ r, (g r).2.l = r.l) (a b : Wd) (r : RS) : (gj g a b r).2.l = r.l := by simp only [gj, hI, hg, je]
theorem qy {g : RS → As × RS} (hg : ∀ r, (g r).2.l = r.l) (r : RS) : (gE g r).2.l = r.l := by simp only [gE, lV hg, hg]
theorem yg (r : RS) (b : Bool) : (r.cell b).2.l = r.l := by
  cases b <;> simp only [RS.cell, fJ, if_true, iE, jy, n9, gn, ite_self]
theorem uD {g : RS → As × RS} (hg : ∀ r, (g r).2.l = r.l) (r : RS) : (iG g r).2.l = r.l := by
  simp only [iG, fJ, fC, hI, tu, je, yg, tY hg, iE, gA, ite_self]
theorem rb : ∀ (f : Nat) (r : RS), (kU f r).2.l = r.l
  | 0, r => rfl
  | f + 1, r => uD (qy (rb f)) r
theorem td (r : RS) : (fj r).2.l = r.l := qy (rb FU) r
theorem sO (r : RS) (x : Wd) : (r.call x).2.l = r.l := by simp only [RS.call, iE, u4, gn]
theorem xG (r : RS) (x : Wd) : (r.what x).2.2.l = r.l := by
  simp only [RS.what, wC, gn, iE, jy, fC, qs, sO, ite_self]
theorem nF {g : RS → St × RS} (hg : ∀ r, (g r).2.l = r.l) : ∀ (f : Nat) (out : List St) (r : RS), (eO g f out r).2.l = r.l
  | 0, out, r => rfl
  | f + 1, out, r => by simp only [eO, fJ, nF hg f, hg, ite_self]
theorem oc {g : RS → St × RS} (hg : ∀ r, (g r).2.l = r.l) (r : RS) : (gm g r).2.l = r.l := by simp only [gm, hI, nF hg, je]
theorem wv {g : RS → List St × RS} (hg : ∀ r, (g r).2.l = r.l) (r : RS) : (g6 g r).2.l = r.l := by
  simp only [g6, fJ, iE, xG, gn, fC, jy, tu, sO, hg, td, gA, ite_self]
theorem qw : ∀ (f : Nat) (r : RS), (kc f r).2.l = r.l
  | 0, r => rfl
  | f + 1, r => wv (oc (qw f)) r
theorem wd (r : RS) : (gP r).2.l = r.l := oc (qw FU) r
theorem xy (r : RS) : r.proc.2.l = r.l := by
  simp only [RS.proc, wd, td, iE, qs, gn]
theorem u0 {r : RS} (h : r.bad = 0) : r.proc.2.mu < r.mu := by
  have a0 := mm h (w := [112, 114, 111, 99]) (by simp)
  unfold RS.proc
  generalize r.eat [112, 114, 111, 99] = r1 at *
  have a1 := eu r1 1
  simp only
  generalize r1.text 1 = x at *
  have a2 := cr x.2 [40]
  have a3 := lg (x.2.eat [40]) 0
  generalize (x.2.eat [40]).names 0 = p at *
  have a4 := cr p.2 [59]
  have a5 := lg (p.2.eat [59]) 0
  generalize (p.2.eat [59]).names 0 = g at *
  have a6 := cr g.2 [41]
  have a7 := cr (g.2.eat [41]) [114, 101, 113, 117, 105, 114, 101, 115]
  have a8 := jG ((g.2.eat [41]).eat [114, 101, 113, 117, 105, 114, 101, 115])
  generalize fj ((g.2.eat [41]).eat [114, 101, 113, 117, 105, 114, 101, 115]) = a at *
  have a9 := cr a.2 [101, 110, 115, 117, 114, 101, 115]
  have a10 := jG (a.2.eat [101, 110, 115, 117, 114, 101, 115])
  generalize fj (a.2.eat [101, 110, 115, 117, 114, 101, 115]) = b at *
  have a11 := rv b.2
  omega
def iy (l : Wd) : RS := ⟨(cX l).1, (l.length : Int), 0, 0, 0, 0, nP l, od l, Nat.zero_le _⟩
def gT (l : Wd) : List Pc × RS := gS FU [] (iy l)
end Go.Proofs.YtpkcgdikbjaoaaaGreatDoor
namespace Go.Proofs.YtpkcgdikbjaoaaaGreatDoor
set_option linter.unusedSimpArgs false
set_option linter.unusedVariables false
open Go.RowKit
def Sm (d : Nat) (s : PS) (r : RS) : Prop := match s.err with
  | none => r.bad = 0 ∧ s.l = r.l.drop r.i ∧ s.end0 = r.end0 ∧ s.depth = (d : Int) ∧ r.depth = (d : Int) ∧ d ≤ 50 ∧ 0 ≤ s.end0
  | some (a, e) => (e ≠ 0 ∧ e ≤ 16) ∧ r.bad = e ∧ r.at0 = a ∧ 0 ≤ a
def Sv (d : Nat) (s0 s : PS) (r : RS) (P : Prop) : Prop := Sm d s r ∧ (s.err = none → s0.err = none ∧ P)
theorem fi {d : Nat} {s : PS} {r : RS} (h : Sm d s r) (he : s.err = none) : r.bad = 0 ∧ s.l = r.l.drop r.i ∧ s.end0 = r.end0 ∧ s.depth = (d : Int) ∧ r.depth = (d : Int) ∧ d ≤ 50 ∧ 0 ≤ s.end0 := by
  unfold Sm at h; rw [he] at h; exact h
theorem lR {d : Nat} {s : PS} {r : RS} {a : Int} {e : Nat} (h : Sm d s r) (he : s.err = some (a, e)) : (e ≠ 0 ∧ e ≤ 16) ∧ r.bad = e ∧ r.at0 = a ∧ 0 ≤ a := by
  unfold Sm at h; rw [he] at h; exact h
theorem zd {d d' : Nat} {s : PS} {r : RS} (h : Sm d s r) (he : s.err ≠ none) : Sm d' s r := by
  unfold Sm at h ⊢
  cases h1 : s.err with
  | none => exact absurd h1 he
  | some x => rw [h1] at h; exact h
theorem jZ {d : Nat} {s : PS} {r : RS} (h : Sm d s r) : r.bad = 0 ↔ s.err = none := by
  unfold Sm at h
  cases h1 : s.err with
  | none => rw [h1] at h; exact ⟨fun _ => rfl, fun _ => h.1⟩
  | some x =>
    rw [h1] at h
    obtain ⟨a, e⟩ := x
    simp only at h
    exact ⟨fun h2 => absurd (h.2.1.symm.trans h2) h.1.1, fun h2 => by cases h2⟩
theorem oI {d : Nat} {s : PS} {r : RS} (h : Sm d s r) (he : s.err = none) : r.tok = s.l.head? := by
  rw [(fi h he).2.1, List.head?_drop]; rfl
theorem dA {d : Nat} {s : PS} {r : RS} (h : Sm d s r) {w : Wd} (hw : w ≠ []) : r.next = w ↔ s.is w = true := by
  unfold RS.next PS.is
  cases he : s.err with
  | some x =>
    have hb : r.bad ≠ 0 := fun h1 => by rw [jZ h, he] at h1; cases h1
    obtain ⟨n, hn⟩ : ∃ n, r.bad = n + 1 := ⟨r.bad - 1, by omega⟩
    rw [hn]
    simp [hw.symm]
  | none =>
    rw [(fi h he).1, oI h he]
    cases hl : s.l with
    | nil => simp [hw.symm]
    | cons t l =>
      have hk := (s.ok t (by rw [hl]; simp)).1
      simp only [List.head?_cons, Bool.and_eq_true, Bool.or_eq_true, beq_iff_eq]
      by_cases hc : t.kind = 1 ∨ t.kind = 3
      · rw [if_pos hc]
        constructor
        · intro e; exact absurd e.symm hw
        · rintro ⟨h1, _⟩; omega
      · rw [if_neg hc]
        constructor
        · intro e; exact ⟨by omega, e⟩
        · exact fun h => h.2
theorem cY {d : Nat} {s : PS} {r : RS} (h : Sm d s r) {w : Wd} (hw : w ≠ []) (hn : ¬ r.next = w) : s.is w = false := by
  cases h1 : s.is w with
  | false => rfl
  | true => exact absurd ((dA h hw).2 h1) hn
theorem kP {d : Nat} {s : PS} {r : RS} (h : Sm d s r) {k : Nat} (hk : k ≠ 0) : r.kind = k ↔ s.kind k = true := by
  unfold RS.kind PS.kind
  cases he : s.err with
  | some x =>
    have hb : r.bad ≠ 0 := fun h1 => by rw [jZ h, he] at h1; cases h1
    obtain ⟨n, hn⟩ : ∃ n, r.bad = n + 1 := ⟨r.bad - 1, by omega⟩
    rw [hn]
    simp [hk.symm]
  | none =>
    rw [(fi h he).1, oI h he]
    cases hl : s.l with
    | nil => simp [hk.symm]
    | cons t l => simp
theorem kq {d : Nat} {s : PS} {r : RS} (h : Sm d s r) {k : Nat} (hk : k ≠ 0) (hn : ¬ r.kind = k) : s.kind k = false := by
  cases h1 : s.kind k with
  | false => rfl
  | true => exact absurd ((kP h hk).2 h1) hn
theorem gG (s : PS) (e : Nat) : (s.fail e).err ≠ none := by
  unfold PS.fail
  cases h : s.err with
  | none => simp
  | some x => simp [h]
theorem wc {d : Nat} {s : PS} {r : RS} (h : Sm d s r) (he : s.err = none) : r.place = s.at := by
  unfold RS.place PS.at
  rw [oI h he, ← (fi h he).2.2.1]
  cases s.l <;> rfl
theorem wA {d : Nat} {s : PS} {r : RS} (h : Sm d s r) {e : Nat} (hz : e ≠ 0 ∧ e ≤ 16) (d' : Nat) : Sm d' (s.fail e) (r.amiss e) := by
  cases he : s.err with
  | none =>
    have h1 : r.amiss e = { r with bad := e, at0 := r.place } := by unfold RS.amiss; rw [(fi h he).1]; rfl
    have h2 : s.fail e = { s with err := some (s.at, e) } := by unfold PS.fail; rw [he]
    rw [h1, h2]
    unfold Sm
    refine ⟨hz, rfl, wc h he, ?_⟩
    have h4 := (fi h he).2.2.2.2.2
    show 0 ≤ s.at
    unfold PS.at
    cases s.l with
    | nil => exact h4.2
    | cons t l => exact Int.natCast_nonneg _
  | some x =>
    obtain ⟨a, n⟩ := x
    have h3 := lR h he
    have h1 : r.amiss e = r := by
      unfold RS.amiss
      obtain ⟨m, hm⟩ : ∃ m, r.bad = m + 1 := ⟨r.bad - 1, by omega⟩
      rw [hm]; rfl
    have h2 : s.fail e = s := by unfold PS.fail; rw [he]
    rw [h1, h2]
    exact zd h (by rw [he]; simp)
theorem sv {d : Nat} {s : PS} {r : RS} (h : Sm d s r) (he : s.err = none) {t : Tok} {l : List Tok} (hl : s.l = t :: l) : Sm d s.drop r.bump := by
  obtain ⟨h1, h2, h3, h4, h5, h6⟩ := fi h he
  have hlt : r.i < r.l.length := by
    apply Classical.byContradiction; intro hc
    rw [List.drop_eq_nil_of_le (by omega)] at h2
    rw [h2] at hl; cases hl
  have hb : r.bump = { r with i := r.i + 1, hi := hlt } := by unfold RS.bump; rw [dif_pos hlt]
  rw [hb]
  have : s.drop.err = none := he
  unfold Sm
  rw [this]
  refine ⟨h1, ?_, h3, h4, h5, h6⟩
  show s.l.tail = r.l.drop (r.i + 1)
  rw [h2, List.tail_drop]
theorem b9 {d : Nat} {s : PS} {r : RS} (h : Sm d s r) : Sv d s s r True := ⟨h, fun he => ⟨he, trivial⟩⟩
theorem Sv.mono {d : Nat} {s0 s : PS} {r : RS} {P Q : Prop} (h : Sv d s0 s r P) (k : P → Q) : Sv d s0 s r Q := ⟨h.1, fun he => ⟨(h.2 he).1, k (h.2 he).2⟩⟩
theorem gd {d : Nat} {s0 s : PS} {r : RS} {P : Prop} (h : Sv d s0 s r P) {e : Nat} (hz : e ≠ 0 ∧ e ≤ 16) (d' : Nat) (Q : Prop) : Sv d' s0 (s.fail e) (r.amiss e) Q :=
  ⟨wA h.1 hz d', fun he => absurd he (gG s e)⟩
theorem dx {d : Nat} {s0 s : PS} {r : RS} {P : Prop} (h : Sv d s0 s r P) {w : Wd} (hi : s.is w = true) : Sv d s0 s.drop r.bump P := by
  obtain ⟨he, t, l, hl⟩ := jK hi
  exact ⟨sv h.1 he hl, fun _ => h.2 he⟩
theorem cT {d : Nat} {s0 s : PS} {r : RS} {P : Prop} (h : Sv d s0 s r P) (w : Wd) (hw : w ≠ []) : Sv d s0 (s.due [w]) (r.eat w) P := by
  unfold RS.eat PS.due
  by_cases hn : r.next = w
  · have hi := (dA h.1 hw).1 hn
    rw [if_pos hn, if_pos hi]
    exact dx h hi
  · rw [if_neg hn, if_neg (by rw [cY h.1 hw hn]; simp)]
    exact gd h (by decide) _ _
theorem ls (s : PS) : (s.fail 11).fail 11 = s.fail 11 := by
  cases he : (s.fail 11).err with
  | none => exact absurd he (gG s 11)
  | some x => rw [PS.fail, he]
theorem xK (s : PS) (w v : Wd) : s.due [w, v] = (s.due [w]).due [v] := by
  by_cases hi : s.is w = true
  · have h1 : s.due [w] = s.drop := by unfold PS.due; rw [if_pos hi]; rfl
    rw [h1, PS.due, if_pos hi]
  · have h1 : s.due [w] = s.fail 11 := by unfold PS.due; rw [if_neg hi]
    have h2 : (s.fail 11).due [v] = s.fail 11 := by unfold PS.due; rw [if_neg (by rw [o8]; simp), ls]
    rw [h1, h2, PS.due, if_neg hi]
theorem eL {d : Nat} {s0 s : PS} {r : RS} {P : Prop} (h : Sv d s0 s r P) {k : Nat} (hk : k ≠ 0) : Sv d s0 (s.word k).2 (r.text k).2 (P ∧ (s.word k).1 = (r.text k).1) := by
  unfold RS.text PS.word
  by_cases hn : r.kind = k
  · have hi := (kP h.1 hk).1 hn
    rw [if_pos hn, if_pos hi]
    obtain ⟨he, t, l, hl, _⟩ := d5 hi
    refine ⟨sv h.1 he hl, fun _ => ⟨(h.2 he).1, (h.2 he).2, ?_⟩⟩
    simp only
    rw [oI h.1 he, hl]; rfl
  · rw [if_neg hn, if_neg (by rw [kq h.1 hk hn]; simp)]
    exact gd h (by decide) _ _
theorem lr {d : Nat} {s0 s : PS} {r : RS} {P : Prop} (h : Sv d s0 s r P) : Sv d s0 s.number.2 r.number.2 (P ∧ s.number.1 = r.number.1) := by
  have h1 := eL h (k := 3) (by decide)
  exact h1.mono fun hp => ⟨hp.1, by unfold PS.number RS.number; rw [hp.2]⟩
theorem vJ (d : Nat) (h : d ≤ 51) : IntKind.i64.wrap (d : Int) = (d : Int) := bO (by omega) (by omega)
theorem qx {d : Nat} {s0 s : PS} {r : RS} {P : Prop} (h : Sv d s0 s r P) : Sv (d + 1) s0 s.enter r.deeper P := by
  cases he : s.err with
  | none =>
    obtain ⟨h1, h2, h3, h4, h5, h6⟩ := fi h.1 he
    unfold PS.enter RS.deeper
    by_cases hd : d = 50
    · subst hd
      rw [if_pos (by rw [h4]; decide), if_pos (by rw [h5]; rfl)]
      have h7 := gd h (e := 4) (by decide) 51 P
      refine ⟨?_, fun e => absurd e (gG s 4)⟩
      have h8 := h7.1
      cases h9 : (s.fail 4).err with
      | none => exact absurd h9 (gG s 4)
      | some x =>
        obtain ⟨a, e⟩ := x
        have h10 := lR h8 h9
        unfold Sm; rw [h9]; exact h10
    · rw [if_neg (by rw [h4]; omega), if_neg (by rw [h5]; omega)]
      have hw : IntKind.i64.wrap ((d : Int) + 1) = ((d + 1 : Nat) : Int) := vJ (d + 1) (by omega)
      refine ⟨?_, fun _ => h.2 he⟩
      unfold Sm
      simp only [he]
      refine ⟨h1, h2, h3, ?_, ?_, by omega⟩
      · rw [h4, hw]
      · show IntKind.i64.wrap (r.depth + 1) = _
        rw [h5, hw]
  | some x =>
    obtain ⟨a, e⟩ := x
    have h1 := lR h.1 he
    have hE : s.enter.err = some (a, e) := by
      unfold PS.enter; split
      · unfold PS.fail; rw [he]; exact he
      · exact he
    have hr : r.deeper.bad = r.bad ∧ r.deeper.at0 = r.at0 := by
      have ha : ∀ n, r.amiss n = r := fun n => by
        unfold RS.amiss
        obtain ⟨m, hm⟩ : ∃ m, r.bad = m + 1 := ⟨r.bad - 1, by omega⟩
        rw [hm]; rfl
      unfold RS.deeper
      rw [ha, ite_self]
      exact ⟨rfl, rfl⟩
    refine ⟨?_, fun h2 => by rw [hE] at h2; cases h2⟩
    unfold Sm
    rw [hE]
    exact ⟨h1.1, hr.1.trans h1.2.1, hr.2.trans h1.2.2.1, h1.2.2.2⟩
theorem mU {d : Nat} {s0 s : PS} {r : RS} {P : Prop} (h : Sv (d + 1) s0 s r P) : Sv d s0 s.leave r.up P := by
  refine ⟨?_, h.2⟩
  have h0 := h.1
  unfold Sm at h0 ⊢
  have hE : s.leave.err = s.err := rfl
  rw [hE]
  cases he : s.err with
  | some x => rw [he] at h0; exact h0
  | none =>
    rw [he] at h0
    obtain ⟨h1, h2, h3, h4, h5, h6⟩ := h0
    have hw : IntKind.i64.wrap (((d + 1 : Nat) : Int) - 1) = (d : Int) := by
      rw [show (((d + 1 : Nat) : Int) - 1) = (d : Int) by omega]; exact vJ d (by omega)
    refine ⟨h1, h2, h3, ?_, ?_, by omega, h6.2⟩
    · show IntKind.i64.wrap (s.depth - 1) = _
      rw [h4, hw]
    · show IntKind.i64.wrap (r.depth - 1) = _
      rw [h5, hw]
theorem kK {d : Nat} {s0 s : PS} {r : RS} {P : Prop} (h : Sv d s0 s r P) (w : Wd) (hw : w ≠ []) : Sv (d + 1) s0 (s.open' w) (r.begin w) P := by
  unfold PS.open' RS.begin
  by_cases hn : r.next = w
  · have hi := (dA h.1 hw).1 hn
    rw [if_pos hn, if_pos hi]
    exact cT (qx h) w hw
  · have hi := cY h.1 hw hn
    rw [if_neg hn, if_neg (by rw [hi]; simp)]
    unfold PS.due RS.eat
    rw [if_neg hn, if_neg (by rw [hi]; simp)]
    exact gd h (by decide) _ _
theorem ju {d : Nat} {s0 s : PS} {r : RS} {P : Prop} (h : Sv (d + 1) s0 s r P) (w : Wd) (hw : w ≠ []) : Sv d s0 (s.due [w]).leave (r.finish w) P := mU (cT h w hw)
def Lw {α : Type} (g : PS → α × PS) (h : RS → α × RS) : Prop := ∀ d s r, Sm d s r → Sv d s (g s).2 (h r).2 ((g s).1 = (h r).1)
theorem Sv.step {α : Type} {d : Nat} {s0 s : PS} {r : RS} {P : Prop} (h : Sv d s0 s r P) {g : PS → α × PS} {k : RS → α × RS} (hl : Lw g k) : Sv d s0 (g s).2 (k r).2 (P ∧ (g s).1 = (k r).1) := by
  have h1 := hl d s r h.1
  exact ⟨h1.1, fun he => ⟨(h.2 (h1.2 he).1).1, (h.2 (h1.2 he).1).2, (h1.2 he).2⟩⟩
theorem rV {k : Nat} (hk : k ≠ 0) : Lw (fun s => s.word k) (fun r => r.text k) := fun d s r h => (eL (b9 h) hk).mono fun h => h.2
theorem pt {α : Type} {w : Wd} (hw : w ≠ []) {g : PS → α × PS} {k : RS → α × RS} (hl : Lw g k) : ∀ (f : Nat) (out out' : List α) (d : Nat) (s0 s : PS) (r : RS) (P : Prop), Sv d s0 s r (P ∧ out = out') → Sv d s0 (fN w g f out s).2 (iD w k f out' r).2 (P ∧ (fN w g f out s).1 = (iD w k f out' r).1)
  | 0, out, out', d, s0, s, r, P, h => h
  | f + 1, out, out', d, s0, s, r, P, h => by
    unfold fN iD
    by_cases hn : r.next = w
    · have hi := (dA h.1 hw).1 hn
      rw [if_pos hn, if_pos hi]
      exact pt hw hl f _ _ d s0 _ _ P (((dx h hi).step hl).mono fun hp => ⟨hp.1.1, by rw [hp.1.2, hp.2]⟩)
    · rw [if_neg hn, if_neg (by rw [cY h.1 hw hn]; simp)]
      exact h
theorem lU {α : Type} {w : Wd} (hw : w ≠ []) {mk : α → α → α} {g : PS → α × PS} {k : RS → α × RS} (hl : Lw g k) : ∀ (f : Nat) (out out' : α) (d : Nat) (s0 s : PS) (r : RS) (P : Prop), Sv d s0 s r (P ∧ out = out') → Sv d s0 (fk w mk g f out s).2 (fL w mk k f out' r).2 (P ∧ (fk w mk g f out s).1 = (fL w mk k f out' r).1)
  | 0, out, out', d, s0, s, r, P, h => h
  | f + 1, out, out', d, s0, s, r, P, h => by
    unfold fk fL
    by_cases hn : r.next = w
    · have hi := (dA h.1 hw).1 hn
      rw [if_pos hn, if_pos hi]
      exact lU hw hl f _ _ d s0 _ _ P (((dx h hi).step hl).mono fun hp => ⟨hp.1.1, by rw [hp.1.2, hp.2]⟩)
    · rw [if_neg hn, if_neg (by rw [cY h.1 hw hn]; simp)]
      exact h
theorem wu {α : Type} {w : Wd} {g : PS → α × PS} {s : PS} (h : s.is w = false) (out : List α) : ∀ f, fN w g f out s = (out, s)
  | 0 => rfl
  | f + 1 => by unfold fN; rw [if_neg (by rw [h]; simp)]
theorem qg {d : Nat} {s0 s : PS} {r : RS} {P : Prop} (h : Sv d s0 s r P) (u : Wd) (hu : u ≠ []) :
    Sv d s0 ((s.names u).2.due [u]) ((r.names 0).2.eat u) (P ∧ (s.names u).1 = (r.names 0).1) := by
  unfold PS.names RS.names
  by_cases hk : r.kind = 1
  · have hk' := (kP h.1 (by decide)).1 hk
    have hi : s.is u = false := by
      obtain ⟨he, t, l, hl, ht⟩ := d5 hk'
      unfold PS.is
      rw [he, hl]
      simp [ht]
    rw [if_neg (by rw [hi]; simp), if_neg (by rintro ⟨_, h1⟩; exact h1 hk)]
    refine cT ?_ u hu
    have h1 := eL h (k := 1) (by decide)
    exact pt (w := [44]) (by simp) (rV (k := 1) (by decide)) FU [(s.word 1).1] [(r.text 1).1] d s0 _ _ P (h1.mono fun hp => ⟨hp.1, by rw [hp.2]⟩)
  · have hc : 0 = 0 ∧ r.kind ≠ 1 := ⟨rfl, hk⟩
    rw [if_pos hc]
    by_cases hn : r.next = u
    · have hi := (dA h.1 hu).1 hn
      rw [if_pos hi]
      exact (cT h u hu).mono fun hp => ⟨hp, rfl⟩
    · have hi := cY h.1 hu hn
      rw [if_neg (by rw [hi]; simp)]
      have h1 : s.word 1 = ([], s.fail 11) := by unfold PS.word; rw [if_neg (by rw [kq h.1 (by decide) hk]; simp)]
      rw [h1]
      simp only
      rw [wu (o8 s 11 _)]
      simp only
      have h2 : (s.fail 11).due [u] = (s.fail 11).fail 11 := by unfold PS.due; rw [if_neg (by rw [o8]; simp)]
      have h3 : r.eat u = r.amiss 11 := by unfold RS.eat; rw [if_neg hn]
      rw [h2, h3, ls]
      exact gd h (by decide) _ _
end Go.Proofs.YtpkcgdikbjaoaaaGreatDoor
namespace Go.Proofs.YtpkcgdikbjaoaaaGreatDoor
set_option linter.unusedSimpArgs false
set_option linter.unusedVariables false
open Go.RowKit
theorem zU {c : UInt8} (h : dF c = true) : 48 ≤ c.toNat ∧ c.toNat ≤ 57 := by
  unfold dF at h; simpa using h
theorem sB : ∀ (t : Wd) (n : Int) (k : Nat), (∀ c ∈ t, dF c = true) → 0 ≤ n → n < 10 ^ k → 0 ≤ t.foldl g4 n ∧ t.foldl g4 n < 10 ^ (k + t.length)
  | [], n, k, _, h0, h1 => ⟨h0, by simpa using h1⟩
  | c :: t, n, k, hd, h0, h1 => by
    have h2 := zU (hd c (by simp))
    have h3 := sB t (g4 n c) (k + 1) (fun x hx => hd x (by simp [hx])) (by unfold g4; omega) (by unfold g4; rw [Int.pow_succ]; omega)
    rw [List.foldl_cons, List.length_cons, show k + (t.length + 1) = k + 1 + t.length by omega]
    exact h3
theorem ze (r : RS) : 0 ≤ r.number.1 ∧ r.number.1 < 10000000000 := by
  have h : (∀ c ∈ (r.text 3).1, dF c = true) ∧ (r.text 3).1.length ≤ 10 := by
    unfold RS.text
    split
    · rename_i h
      obtain ⟨_, t, ht, hk⟩ := jb (by decide) h
      obtain ⟨h1, h2⟩ := eY ht
      have := (r.ok t (h2 ▸ List.getElem_mem h1)).2.1 hk
      rw [ht]
      exact this
    · exact ⟨fun c h => by simp at h, by simp⟩
  have h1 := sB (r.text 3).1 0 0 h.1 (by decide) (by decide)
  have h2 : (10 : Nat) ^ (0 + (r.text 3).1.length) ≤ 10 ^ 10 := Nat.pow_le_pow_right (by decide) (by have := h.2; omega)
  have h3 : (((10 : Nat) ^ (0 + (r.text 3).1.length) : Nat) : Int) ≤ ((10 ^ 10 : Nat) : Int) := by omega
  have h4 : (((10 : Nat) ^ (0 + (r.text 3).1.length) : Nat) : Int) = (10 : Int) ^ (0 + (r.text 3).1.length) := by simp
  have h5 : ((10 ^ 10 : Nat) : Int) = 10000000000 := by decide
  show 0 ≤ im (r.text 3).1 ∧ im (r.text 3).1 < _
  unfold im
  rw [h4, h5] at h3
  exact ⟨h1.1, by omega⟩
theorem ll {g : PS → Ex × PS} {k : RS → Ex × RS} (hl : Lw g k) : ∀ (f : Nat) (out out' : Ex) (d : Nat) (s0 s : PS) (r : RS) (P : Prop), Sv d s0 s r (P ∧ out = out') → Sv d s0 (fE g f out s).2 (fz k f out' r).2 (P ∧ (fE g f out s).1 = (fz k f out' r).1)
  | 0, out, out', d, s0, s, r, P, h => h
  | f + 1, out, out', d, s0, s, r, P, h => by
    unfold fE fz
    by_cases h1 : r.next = [45]
    · have hi := (dA h.1 (by simp)).1 h1
      rw [if_pos (by rw [hi]; simp), if_pos (Or.inr h1), if_pos hi, if_pos h1]
      exact ll hl f _ _ d s0 _ _ P (((dx h hi).step hl).mono fun hp => ⟨hp.1.1, by rw [hp.1.2, hp.2]⟩)
    · have hi := cY h.1 (by simp) h1
      by_cases h2 : r.next = [43]
      · have hi2 := (dA h.1 (by simp)).1 h2
        rw [if_pos (by rw [hi2]; simp), if_pos (Or.inl h2), if_neg (by rw [hi]; simp), if_neg h1]
        exact ll hl f _ _ d s0 _ _ P (((dx h hi2).step hl).mono fun hp => ⟨hp.1.1, by rw [hp.1.2, hp.2]⟩)
      · have hi2 := cY h.1 (by simp) h2
        rw [if_neg (by rw [hi, hi2]; simp), if_neg (fun h3 => h3.elim h2 h1)]
        exact h
theorem qa {g : PS → Ex × PS} {k : RS → Ex × RS} (hl : Lw g k) : Lw (jg g) (gw k) := fun d s r h =>
  (ll hl FU _ _ d s _ _ True ((b9 h).step hl)).mono fun h => h.2
theorem wt {d : Nat} {s : PS} {r : RS} (h : Sm d s r) (he : s.err = none) : s.times = r.times := by
  have h1 := (fi h he).2.1
  have h2 : r.l[r.i + 1]? = s.l[1]? := by rw [h1, List.getElem?_drop]
  unfold PS.times RS.times
  rw [h2]
  cases hl : s.l with
  | nil => rfl
  | cons a l =>
    cases l with
    | nil => rfl
    | cons t l =>
      have hk := (s.ok t (by rw [hl]; simp)).2.2
      show (t.kind == 4 && t.text == [42]) = (t.text == [42])
      by_cases hc : t.text = [42]
      · rw [hk hc, hc]; rfl
      · have : (t.text == [42]) = false := by simpa using hc
        rw [this, Bool.and_false]
theorem vp {g : PS → Ex × PS} {k : RS → Ex × RS} (hl : Lw g k) : Lw (i6 g) (fV k) := fun d s r h => by
  unfold i6 fV
  simp only
  have hS : Sv d s (s.take [45]).2 (if r.next = [45] then r.bump else r) True ∧ (s.is [45] = true ↔ r.next = [45]) := by
    refine ⟨?_, (dA h (by simp)).symm⟩
    unfold PS.take
    by_cases hn : r.next = [45]
    · have hi := (dA h (by simp)).1 hn
      rw [if_pos hn, if_pos hi]
      exact dx (b9 h) hi
    · rw [if_neg hn, if_neg (by rw [cY h (by simp) hn]; simp)]
      exact b9 h
  obtain ⟨h1, hm⟩ := hS
  generalize (s.take [45]).2 = s1 at *
  generalize (if r.next = [45] then r.bump else r) = r1 at *
  by_cases hk : r1.kind = 3
  · have hk' := (kP h1.1 (by decide)).1 hk
    have he := (d5 hk').1
    rw [if_neg (by rw [hk']; simp), if_pos hk', if_pos hk]
    unfold eN
    simp only
    rw [wt h1.1 he]
    have hV : ∀ r2 : RS, IntKind.i64.wrap ((if s.is [45] then (-1 : Int) else 1) * r2.number.1) = if r.next = [45] then IntKind.i64.wrap (0 - r2.number.1) else r2.number.1 := fun r2 => by
      by_cases hn : r.next = [45]
      · rw [if_pos hn, if_pos (hm.2 hn)]; congr 1; omega
      · rw [if_neg hn, if_neg (fun e => hn (hm.1 e)), Int.one_mul]
        have := ze r2
        exact bO (by omega) (by omega)
    by_cases ht : r1.times = true
    · simp only [ht, if_true]
      have h2 := lr (qx h1)
      have h3 := (cT h2 [42] (by simp)).step hl
      refine (mU h3).mono fun hp => ?_
      rw [hp.2, hp.1.2, hV]
    · simp only [ht, if_false, Bool.false_eq_true]
      have h2 := lr h1
      refine h2.mono fun hp => ?_
      rw [hp.2, hV]
  · have hk' := kq h1.1 (by decide) hk
    by_cases hn : r.next = [45]
    · have hi := hm.2 hn
      rw [if_pos (by rw [hi, hk']; rfl), if_neg hk, if_neg (by rintro ⟨h2, _⟩; exact h2 hn), if_pos hn]
      have h2 := gd h1 (e := 11) (by decide) d True
      have hb : (r1.amiss 11).bad ≠ 0 := fun e => gG s1 11 ((jZ h2.1).1 e)
      have h3 := eL h2 (k := 1) (by decide)
      have h4 : (s1.fail 11).word 1 = ([], s1.fail 11) := by
        have h5 : (s1.fail 11).kind 1 = false := by
          cases h6 : (s1.fail 11).kind 1 with
          | false => rfl
          | true => exact absurd (d5 h6).1 (gG s1 11)
        unfold PS.word
        rw [if_neg (by rw [h5]; simp), ls]
      rw [h4] at h3
      exact ⟨h3.1, fun he => absurd he (gG s1 11)⟩
    · have hi : s.is [45] = false := by
        cases h2 : s.is [45] with
        | false => rfl
        | true => exact absurd (hm.1 h2) hn
      rw [if_neg (by rw [hi]; simp), if_neg (by rw [hk']; simp), if_neg hk]
      by_cases hp : r1.next = [40]
      · have hp' := (dA h1.1 (by simp)).1 hp
        rw [if_pos hp', if_pos ⟨hn, hp⟩]
        exact (ju ((kK h1 [40] (by simp)).step (qa hl)) [41] (by simp)).mono fun hq => hq.2
      · have hp' := cY h1.1 (by simp) hp
        rw [if_neg (by rw [hp']; simp), if_neg (by rintro ⟨_, h2⟩; exact hp h2), if_neg hn]
        exact (eL h1 (k := 1) (by decide)).mono fun hq => by rw [hq.2]
theorem lJ {α : Type} (a : α) : Lw (fun s => (a, s)) (fun r => (a, r)) := fun d s r h => (b9 h).mono fun _ => rfl
theorem qW : ∀ f, Lw (mR f) (kW f)
  | 0 => lJ exZ
  | f + 1 => vp (qW f)
theorem fv : Lw du cy := qa (qW FU)
theorem qM (u : Wd) (hu : u ≠ []) : Lw (fun s => s.exprs u) (fun r => r.exprs u) := fun d s r h => by
  simp only
  unfold PS.exprs RS.exprs
  by_cases hn : r.next = u
  · rw [if_pos hn, if_pos ((dA h hu).1 hn)]
    exact (b9 h).mono fun _ => rfl
  · rw [if_neg hn, if_neg (by rw [cY h hu hn]; simp)]
    exact (pt (w := [44]) (by simp) fv FU _ _ d s _ _ True (((b9 h).step fv).mono fun hp => ⟨trivial, by rw [hp.2]⟩)).mono fun hp => hp.2
theorem rX {g : PS → Co × PS} {k : RS → Co × RS} (hl : Lw g k) : Lw (lF g) (jr k) := fun d s r h =>
  (lU (by simp) hl FU _ _ d s _ _ True ((b9 h).step hl)).mono fun h => h.2
theorem qt {g : PS → Co × PS} {k : RS → Co × RS} (hl : Lw g k) : Lw (iZ g) (gX k) := fun d s r h =>
  (lU (by simp) (rX hl) FU _ _ d s _ _ True ((b9 h).step (rX hl))).mono fun h => h.2
theorem yy : Lw PS.cmp RS.cmp := fun d s r h => by
  unfold PS.cmp RS.cmp
  have go : ∀ (w : Wd) (n : Nat) (x : Nat × PS) (y : Nat × RS), w ≠ [] → (¬ r.next = w → Sv d s x.2 y.2 (x.1 = y.1)) →
      Sv d s (if s.is w then (n, s.drop) else x).2 (if r.next = w then (n, r.bump) else y).2 ((if s.is w then (n, s.drop) else x).1 = (if r.next = w then (n, r.bump) else y).1) := fun w n x y hw hx => by
    by_cases hn : r.next = w
    · have hi := (dA h hw).1 hn
      rw [if_pos hn, if_pos hi]
      exact (dx (b9 h) hi).mono fun _ => rfl
    · rw [if_neg hn, if_neg (by rw [cY h hw hn]; simp)]
      exact hx hn
  refine go _ _ _ _ (by simp) fun _ => go _ _ _ _ (by simp) fun _ => go _ _ _ _ (by simp) fun _ => go _ _ _ _ (by simp) fun _ => ?_
  exact gd (b9 h) (by decide) _ _
theorem m6 {g : PS → Co × PS} {k : RS → Co × RS} (hl : Lw (iZ g) k) {d : Nat} {s0 s : PS} {r : RS} {P : Prop} (h : Sv d s0 s r P) :
    Sv d s0 (eE g s).2 ((k (r.begin [91])).2.finish [93]) (P ∧ (eE g s).1 = (k (r.begin [91])).1) :=
  ju ((kK h [91] (by simp)).step hl) [93] (by simp)
theorem wT {g : PS → Co × PS} {k : RS → Co × RS} (hl : Lw g k) : Lw (l6 g) (kH k) := fun d s r h => by
  unfold l6 kH
  simp only
  by_cases hn : r.next = [33]
  · rw [if_pos hn, if_pos ((dA h (by simp)).1 hn)]
    exact (mU ((kK (b9 h) [33] (by simp)).step hl)).mono fun hp => by rw [hp.2]
  rw [if_neg hn, if_neg (by rw [cY h (by simp) hn]; simp)]
  clear hn
  by_cases hn : r.next = [91]
  · rw [if_pos hn, if_pos ((dA h (by simp)).1 hn)]
    exact (m6 (qt hl) (b9 h)).mono fun hp => hp.2
  rw [if_neg hn, if_neg (by rw [cY h (by simp) hn]; simp)]
  clear hn
  by_cases hn : r.next = [116, 114, 117, 101]
  · have hi := (dA h (by simp)).1 hn
    rw [if_pos hn, if_pos hi]
    exact (dx (b9 h) hi).mono fun _ => rfl
  rw [if_neg hn, if_neg (by rw [cY h (by simp) hn]; simp)]
  clear hn
  by_cases hn : r.next = [102, 97, 108, 115, 101]
  · have hi := (dA h (by simp)).1 hn
    rw [if_pos hn, if_pos hi]
    exact (dx (b9 h) hi).mono fun _ => rfl
  rw [if_neg hn, if_neg (by rw [cY h (by simp) hn]; simp)]
  exact ((((b9 h).step fv).step yy).step fv).mono fun hp => by rw [hp.2, hp.1.2, hp.1.1.2]
theorem sQ : ∀ f, Lw (rc f) (oa f)
  | 0 => lJ coZ
  | f + 1 => wT (sQ f)
theorem ku : Lw gL ei := qt (sQ FU)
end Go.Proofs.YtpkcgdikbjaoaaaGreatDoor
namespace Go.Proofs.YtpkcgdikbjaoaaaGreatDoor
set_option linter.unusedSimpArgs false
set_option linter.unusedVariables false
open Go.RowKit
theorem qd {g : PS → As × PS} {k : RS → As × RS} (hl : Lw g k) : Lw (i0 g) (gE k) := fun d s r h =>
  (lU (by simp) hl FU _ _ d s _ _ True ((b9 h).step hl)).mono fun h => h.2
theorem n8 {g : PS → As × PS} {k : RS → As × RS} (hl : Lw g k) (a b : Wd) (ha : a ≠ []) (hb : b ≠ []) : Lw (eJ g a b) (gj k a b) := fun d s r h =>
  (ju ((kK (b9 h) a ha).step hl) b hb).mono fun hp => hp.2
theorem sD (b : Bool) : Lw (fun s => s.cell b) (fun r => r.cell b) := fun d s r h => by
  simp only
  unfold PS.cell RS.cell PS.place
  simp only
  have h1 := (cT (b9 h) [40] (by simp)).step fv
  have h2 := eL (cT h1 [46] (by simp)) (k := 1) (by decide)
  have h3 := lr (cT h2 [44] (by simp))
  cases b
  · simp only [Bool.false_eq_true, if_false]
    have h5 := cT h3 [41] (by simp)
    generalize du (s.due [[40]]) = p1 at *
    generalize cy (r.eat [40]) = p2 at *
    generalize (p1.2.due [[46]]).word 1 = f1 at *
    generalize (p2.2.eat [46]).text 1 = f2 at *
    generalize (f1.2.due [[44]]).number = q1 at *
    generalize (f2.2.eat [44]).number = q2 at *
    exact h5.mono fun hp => by rw [hp.2, hp.1.2, hp.1.1.2]
  · simp only [if_true]
    have h5 := cT ((cT h3 [44] (by simp)).step fv) [41] (by simp)
    generalize du (s.due [[40]]) = p1 at *
    generalize cy (r.eat [40]) = p2 at *
    generalize (p1.2.due [[46]]).word 1 = f1 at *
    generalize (p2.2.eat [46]).text 1 = f2 at *
    generalize (f1.2.due [[44]]).number = q1 at *
    generalize (f2.2.eat [44]).number = q2 at *
    generalize du (q1.2.due [[44]]) = v1 at *
    generalize cy (q2.2.eat [44]) = v2 at *
    exact h5.mono fun hp => by rw [hp.2, hp.1.2, hp.1.1.2, hp.1.1.1.2]
theorem v7 {g : PS → As × PS} {k : RS → As × RS} (hl : Lw g k) : Lw (jk g) (iG k) := fun d s r h => by
  unfold jk iG
  simp only
  by_cases hn : r.next = [101, 109, 112]
  · have hi := (dA h (by simp)).1 hn
    rw [if_pos hn, if_pos hi]
    exact (dx (b9 h) hi).mono fun _ => rfl
  rw [if_neg hn, if_neg (by rw [cY h (by simp) hn]; simp)]
  clear hn
  by_cases hn : r.next = [91]
  · rw [if_pos hn, if_pos ((dA h (by simp)).1 hn)]
    exact (m6 ku (b9 h)).mono fun hp => by
      show As.mk 1 (fA s).1 exZ exZ [] 0 [] = _
      rw [show (fA s).1 = (ei (r.begin [91])).1 from hp.2]
  rw [if_neg hn, if_neg (by rw [cY h (by simp) hn]; simp)]
  clear hn
  by_cases ha : r.next = [97, 99, 99]
  · have hi := (dA h (by simp)).1 ha
    have hf : s.is [112, 116, 115] = false := cY h (by simp) (by rw [ha]; decide)
    rw [if_pos ha, if_pos (by rw [hi]; rfl), hf]
    exact ((dx (b9 h) hi).step (sD false)).mono fun hp => hp.2
  rw [if_neg ha]
  by_cases hn : r.next = [112, 116, 115]
  · have hi := (dA h (by simp)).1 hn
    rw [if_pos hn, if_pos (by rw [hi, Bool.or_true]), hi]
    exact ((dx (b9 h) hi).step (sD true)).mono fun hp => hp.2
  rw [if_neg hn, if_neg (by rw [cY h (by simp) hn, cY h (by simp) ha]; simp)]
  clear hn ha
  by_cases hn : r.next = [105, 102]
  · have hi := (dA h (by simp)).1 hn
    rw [if_pos hn, if_pos hi]
    have h1 := (dx (b9 h) hi).step ku
    have hb := n8 hl [123] [125] (by simp) (by simp)
    have h2 := h1.step hb
    have h3 := (cT h2 [101, 108, 115, 101] (by simp)).step hb
    exact h3.mono fun hp => by rw [hp.2, hp.1.2, hp.1.1.2]
  rw [if_neg hn, if_neg (by rw [cY h (by simp) hn]; simp)]
  clear hn
  by_cases hn : r.next = [40]
  · rw [if_pos hn, if_pos ((dA h (by simp)).1 hn)]
    exact n8 hl [40] [41] (by simp) (by simp) d s r h
  rw [if_neg hn, if_neg (by rw [cY h (by simp) hn]; simp)]
  exact gd (b9 h) (by decide) _ _
theorem pW : ∀ f, Lw (l4 f) (kU f)
  | 0 => lJ asZ
  | f + 1 => v7 (qd (pW f))
theorem py : Lw iX fj := qd (pW FU)
theorem oT (x : Wd) : Lw (fun s => (s.call.1.named x, s.call.2)) (fun r => r.call x) := fun d s r h => by
  simp only
  unfold PS.call RS.call
  simp only
  have h1 := eL (cT (b9 h) [99, 97, 108, 108] (by simp)) (k := 1) (by decide)
  have h2 := (cT h1 [40] (by simp)).step (qM [59] (by simp))
  have h3 := (cT h2 [59] (by simp)).step (qM [41] (by simp))
  exact (cT h3 [41] (by simp)).mono fun hp => by
    show St.mk 9 x _ _ _ _ _ _ _ _ _ _ _ = _
    rw [hp.2, hp.1.2, hp.1.1.2]
theorem yJ {d : Nat} {s0 s : PS} {r : RS} {P : Prop} (h : Sv d s0 s r P) :
    Sv d s0 s.set.2 (((r.text 1).2.eat [58, 61]).what (r.text 1).1).2.2 (P ∧ s.set.1 = (((r.text 1).2.eat [58, 61]).what (r.text 1).1).2.1) := by
  unfold PS.set
  simp only
  have h1 := cT (eL h (k := 1) (by decide)) [58, 61] (by simp)
  generalize (s.word 1).2.due [[58, 61]] = s1 at *
  generalize (r.text 1).2.eat [58, 61] = r1 at *
  generalize (s.word 1).1 = x at *
  generalize (r.text 1).1 = y at *
  unfold RS.what
  by_cases hn : r1.next = [103, 101, 116]
  · have hi := (dA h1.1 (by simp)).1 hn
    rw [if_pos hn, if_pos hi]
    unfold PS.place
    simp only
    have h2 := (dx h1 hi).step fv
    exact (eL (cT h2 [46] (by simp)) (k := 1) (by decide)).mono fun hp => ⟨hp.1.1.1, by rw [hp.2, hp.1.2, hp.1.1.2]⟩
  rw [if_neg hn, if_neg (by rw [cY h1.1 (by simp) hn]; simp)]
  clear hn
  by_cases hn : r1.next = [110, 101, 119]
  · have hi := (dA h1.1 (by simp)).1 hn
    rw [if_pos hn, if_pos hi]
    have h2 := eL (cT (dx h1 hi) [40] (by simp)) (k := 1) (by decide)
    have hnm : (r1.bump.eat [40]).names 1 = iD [44] (fun r => r.text 1) FU [((r1.bump.eat [40]).text 1).1] ((r1.bump.eat [40]).text 1).2 := by
      unfold RS.names; rw [if_neg (by rintro ⟨h3, _⟩; cases h3)]
    rw [hnm]
    simp only
    have h3 := pt (w := [44]) (by simp) (rV (k := 1) (by decide)) FU [((s1.drop.due [[40]]).word 1).1] [((r1.bump.eat [40]).text 1).1] d s0 _ _ (P ∧ x = y) (h2.mono fun hp => ⟨hp.1, by rw [hp.2]⟩)
    exact (cT h3 [41] (by simp)).mono fun hp => ⟨hp.1.1, by rw [hp.2, hp.1.2]⟩
  rw [if_neg hn, if_neg (by rw [cY h1.1 (by simp) hn]; simp)]
  clear hn
  by_cases hn : r1.next = [99, 97, 108, 108]
  · have hi := (dA h1.1 (by simp)).1 hn
    rw [if_pos hn, if_pos hi]
    by_cases hxy : x = y
    · subst hxy
      have h2 := h1.step (oT x)
      simp only at h2 ⊢
      generalize r1.call x = c1 at *
      generalize s1.call = c2 at *
      exact h2.mono fun hp => ⟨hp.1.1, hp.2⟩
    · have h2 := h1.step (oT x)
      have e : (r1.call x).2 = (r1.call y).2 := by unfold RS.call; rfl
      simp only at h2 ⊢
      rw [e] at h2
      exact ⟨h2.1, fun he => absurd (h2.2 he).2.1.2 hxy⟩
  rw [if_neg hn, if_neg (by rw [cY h1.1 (by simp) hn]; simp)]
  exact (h1.step fv).mono fun hp => ⟨hp.1.1, by rw [hp.2, hp.1.2]⟩
theorem om {g : PS → St × PS} {k : RS → St × RS} (hl : Lw g k) : ∀ (f : Nat) (out out' : List St) (d : Nat) (s0 s : PS) (r : RS) (P : Prop), Sv d s0 s r (P ∧ out = out') → Sv d s0 (fe g f out s).2 (eO k f out' r).2 (P ∧ (fe g f out s).1 = (eO k f out' r).1)
  | 0, out, out', d, s0, s, r, P, h => h
  | f + 1, out, out', d, s0, s, r, P, h => by
    unfold fe eO
    cases he : s.err with
    | some x =>
      rw [if_neg (by simp), if_neg (by rintro ⟨h1, _⟩; rw [jZ h.1, he] at h1; cases h1)]
      exact h
    | none =>
      by_cases hn : r.next = [125]
      · rw [if_neg (by rw [(dA h.1 (by simp)).1 hn]; simp), if_neg (by rintro ⟨_, h1⟩; exact h1 hn)]
        exact h
      · rw [if_pos (by rw [cY h.1 (by simp) hn]; rfl), if_pos ⟨(jZ h.1).2 he, hn⟩]
        exact om hl f _ _ d s0 _ _ P ((h.step hl).mono fun hp => ⟨hp.1.1, by rw [hp.1.2, hp.2]⟩)
theorem nH {g : PS → St × PS} {k : RS → St × RS} (hl : Lw g k) : Lw (g5 g) (gm k) := fun d s r h =>
  (ju (om hl FU [] [] (d + 1) s _ _ True ((kK (b9 h) [123] (by simp)).mono fun hp => ⟨hp, rfl⟩)) [125] (by simp)).mono fun hp => hp.2
theorem wa {g : PS → List St × PS} {k : RS → List St × RS} (hl : Lw g k) : Lw (il g) (g6 k) := fun d s r h => by
  unfold il g6
  simp only
  by_cases hk : r.kind = 1
  · have hk' := (kP h (by decide)).1 hk
    have hno : ∀ w : Wd, w ≠ [] → ¬ s.is w = true := fun w hw e => by
      obtain ⟨he, t, l, hl2, ht⟩ := d5 hk'
      unfold PS.is at e
      rw [he, hl2] at e
      simp [ht] at e
    rw [if_pos hk, if_neg (hno _ (by simp)), if_neg (hno _ (by simp)), if_neg (hno _ (by simp)), if_neg (hno _ (by simp)), if_neg (hno _ (by simp)), if_pos hk']
    exact (cT (yJ (b9 h)) [59] (by simp)).mono fun hp => hp.2
  rw [if_neg hk]
  have hk' := kq h (by decide) hk
  by_cases hn : r.next = [115, 107, 105, 112]
  · have hi := (dA h (by simp)).1 hn
    rw [if_pos hn, if_pos hi]
    exact (cT (dx (b9 h) hi) [59] (by simp)).mono fun _ => rfl
  rw [if_neg hn, if_neg (by rw [cY h (by simp) hn]; simp)]
  clear hn
  by_cases hn : r.next = [112, 117, 116]
  · have hi := (dA h (by simp)).1 hn
    rw [if_pos hn, if_pos hi]
    unfold PS.place
    simp only
    have h1 := (dx (b9 h) hi).step fv
    have h2 := eL (cT h1 [46] (by simp)) (k := 1) (by decide)
    have h3 := (cT h2 [58, 61] (by simp)).step fv
    exact (cT h3 [59] (by simp)).mono fun hp => by rw [hp.2, hp.1.2, hp.1.1.2]
  rw [if_neg hn, if_neg (by rw [cY h (by simp) hn]; simp)]
  clear hn
  by_cases hn : r.next = [102, 114, 101, 101]
  · have hi := (dA h (by simp)).1 hn
    rw [if_pos hn, if_pos hi]
    unfold PS.place
    simp only
    have h1 := (dx (b9 h) hi).step fv
    have h2 := eL (cT h1 [46] (by simp)) (k := 1) (by decide)
    exact (cT h2 [59] (by simp)).mono fun hp => by rw [hp.2, hp.1.2]
  rw [if_neg hn, if_neg (by rw [cY h (by simp) hn]; simp)]
  clear hn
  by_cases hn : r.next = [97, 115, 115, 101, 114, 116]
  · have hi := (dA h (by simp)).1 hn
    rw [if_pos hn, if_pos hi]
    have h1 := (dx (b9 h) hi).step ku
    exact (cT h1 [59] (by simp)).mono fun hp => by rw [hp.2]
  rw [if_neg hn, if_neg (by rw [cY h (by simp) hn]; simp)]
  clear hn
  by_cases hn : r.next = [99, 97, 108, 108]
  · have hi := (dA h (by simp)).1 hn
    rw [if_pos hn, if_pos hi]
    have hc : s.call.1.named [] = s.call.1 := by unfold PS.call; rfl
    have h1 := (b9 h).step (oT [])
    simp only [hc] at h1
    clear hc
    generalize s.call = c1 at *
    generalize r.call [] = c2 at *
    exact (cT h1 [59] (by simp)).mono fun hp => hp.2
  rw [if_neg hn, if_neg (by rw [cY h (by simp) hn]; simp), if_neg (by rw [hk']; simp)]
  clear hn
  by_cases hn : r.next = [105, 102]
  · have hi := (dA h (by simp)).1 hn
    rw [if_pos hn, if_pos hi]
    have h1 := ((dx (b9 h) hi).step ku).step hl
    exact ((cT h1 [101, 108, 115, 101] (by simp)).step hl).mono fun hp => by rw [hp.2, hp.1.2, hp.1.1.2]
  rw [if_neg hn, if_neg (by rw [cY h (by simp) hn]; simp)]
  clear hn
  by_cases hn : r.next = [119, 104, 105, 108, 101]
  · have hi := (dA h (by simp)).1 hn
    rw [if_pos hn, if_pos hi]
    have h1 := (dx (b9 h) hi).step ku
    exact (((cT h1 [105, 110, 118, 97, 114, 105, 97, 110, 116] (by simp)).step py).step hl).mono fun hp => by rw [hp.2, hp.1.2, hp.1.1.2]
  rw [if_neg hn, if_neg (by rw [cY h (by simp) hn]; simp)]
  exact cT (gd (b9 h) (by decide) d _) [59] (by simp)
theorem q8 : ∀ f, Lw (lC f) (kc f)
  | 0 => lJ stZ
  | f + 1 => wa (nH (q8 f))
theorem uQ : Lw gZ gP := nH (q8 FU)
theorem xi : Lw PS.proc RS.proc := fun d s r h => by
  unfold PS.proc RS.proc
  simp only
  have h1 := eL (cT (b9 h) [112, 114, 111, 99] (by simp)) (k := 1) (by decide)
  have h2 := qg (cT h1 [40] (by simp)) [59] (by simp)
  have h3 := qg h2 [41] (by simp)
  have h4 := (cT h3 [114, 101, 113, 117, 105, 114, 101, 115] (by simp)).step py
  have h5 := (cT h4 [101, 110, 115, 117, 114, 101, 115] (by simp)).step py
  rw [xK]
  exact (h5.step uQ).mono fun hp => by rw [hp.2, hp.1.2, hp.1.1.2, hp.1.1.1.2, hp.1.1.1.1.2, hp.1.1.1.1.1.2]
theorem oh : ∀ (f : Nat) (out out' : List Pc) (d : Nat) (s0 s : PS) (r : RS) (P : Prop), Sv d s0 s r (P ∧ out = out') → Sv d s0 (dL f out s).2 (gS f out' r).2 (P ∧ (dL f out s).1 = (gS f out' r).1)
  | 0, out, out', d, s0, s, r, P, h => h
  | f + 1, out, out', d, s0, s, r, P, h => by
    unfold dL gS
    cases he : s.err with
    | some x =>
      rw [if_neg (by simp), if_neg (by rintro ⟨h1, _⟩; rw [jZ h.1, he] at h1; cases h1)]
      exact h
    | none =>
      have h1 := (fi h.1 he).2.1
      by_cases hn : r.i < r.l.length
      · have h2 : s.l ≠ [] := fun e => by rw [e] at h1; have := List.drop_eq_nil_iff.1 h1.symm; omega
        rw [if_pos (by simpa using h2), if_pos ⟨(jZ h.1).2 he, hn⟩]
        exact oh f _ _ d s0 _ _ P ((h.step xi).mono fun hp => ⟨hp.1.1, by rw [hp.1.2, hp.2]⟩)
      · have h2 : s.l = [] := by rw [h1, List.drop_eq_nil_of_le (by omega)]
        rw [if_neg (by rw [h2]; simp), if_neg (by rintro ⟨_, h3⟩; exact hn h3)]
        exact h
theorem tU (l : Wd) : Sv 0 (eS l) (dG l).2 (gT l).2 ((dG l).1 = (gT l).1) := by
  have h : Sm 0 (eS l) (iy l) := ⟨rfl, rfl, rfl, rfl, rfl, by decide, Int.natCast_nonneg _⟩
  exact (oh FU [] [] 0 _ _ _ True ((b9 h).mono fun _ => ⟨trivial, rfl⟩)).mono fun hp => hp.2
end Go.Proofs.YtpkcgdikbjaoaaaGreatDoor

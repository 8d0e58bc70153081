/- Programs as data, and their trees; the parser's state. The parser, as functions of its state. No program is in sight, but for the trees. The parser, as functions of its state: assertions, statements, programs. No program is in sight, but for the trees. Statements, procedures, and their trees: every slice in a statement's own cells is told without its capacity. -/
import Derived.Test.YtpkcgdikbjaoaaaGreatDoorZ11
import Derived.Test.YtpkcgdikbjaoaaaGreatDoorZ7
import Derived.Test.YtpkcgdikbjaoaaaGreatDoorZ6
namespace Go.Proofs.YtpkcgdikbjaoaaaGreatDoor
set_option linter.unusedSimpArgs false
set_option linter.unusedVariables false
open Go.RowKit
abbrev Wd := List UInt8
abbrev inA (n : Int) : AV := .c (.int .i64 n)
inductive Ex where
  | mk (kind : Nat) (n : Int) (name : Wd) (kids : List Ex)
mutual
def exA : Ex → List AV
  | .mk k n x ks => [inA (k : Int), inA n, bs x, .sl (cW ks) ks.length .full]
def cW : List Ex → List AV
  | [] => []
  | e :: r => exA e ++ cW r
end
inductive Co where
  | mk (kind : Nat) (e : List Ex) (kids : List Co)
mutual
def coA : Co → List AV
  | .mk k e ks => [inA (k : Int), .sl (cW e) e.length .full, .sl (eV ks) ks.length .full]
def eV : List Co → List AV
  | [] => []
  | e :: r => coA e ++ eV r
end
inductive As where
  | mk (kind : Nat) (c : Co) (e v : Ex) (field : Wd) (n : Int) (kids : List As)
mutual
def asA : As → List AV
  | .mk k c e v f n ks => [inA (k : Int)] ++ coA c ++ exA e ++ exA v ++ [bs f, inA n, .sl (gb ks) ks.length .full]
def gb : List As → List AV
  | [] => []
  | e :: r => asA e ++ gb r
end
inductive St where
  | mk (kind : Nat) (name field callee : Wd) (e v : Ex) (c : Co) (a : As) (args ghosts : List Ex) (fields : List Wd) (body els : List St)
mutual
def stA : St → List AV
  | .mk k x f y e v c a rs gs fs b l => [inA (k : Int), bs x, bs f, bs y] ++ exA e ++ exA v ++ coA c ++ asA a ++ [.sl (cW rs) rs.length .none, .sl (cW gs) gs.length .none, .sl (fs.map bs) fs.length .none, .sl (ng b) b.length .none, .sl (ng l) l.length .none]
def ng : List St → List AV
  | [] => []
  | e :: r => stA e ++ ng r
end
structure Pc where
  name : Wd
  params : List Wd
  ghosts : List Wd
  pre : As
  post : As
  body : List St
def pcA (p : Pc) : List AV := [bs p.name, .sl (p.params.map bs) p.params.length .none, .sl (p.ghosts.map bs) p.ghosts.length .none] ++ asA p.pre ++ asA p.post ++ [.sl (ng p.body) p.body.length .none]
def rt : List Pc → List AV
  | [] => []
  | e :: r => pcA e ++ rt r
theorem kD : ∀ e, (exA e).length = 4
  | .mk k n x ks => by simp [exA]
theorem ki : ∀ e, (coA e).length = 3
  | .mk k e ks => by simp [coA]
theorem jz : ∀ e, (asA e).length = 15
  | .mk k c e v f n ks => by simp [asA, ki, kD]
theorem wV : ∀ e, (stA e).length = 35
  | .mk k x f y e v c a rs gs fs b l => by simp [stA, ki, kD, jz]
theorem xj (p : Pc) : (pcA p).length = 34 := by simp [pcA, jz]
theorem kJ : ∀ l : List Ex, (cW l).length = l.length * 4
  | [] => rfl
  | e :: r => by simp only [cW, List.length_append, List.length_cons, kD, kJ r]; omega
theorem qA : ∀ l : List Co, (eV l).length = l.length * 3
  | [] => rfl
  | e :: r => by simp only [eV, List.length_append, List.length_cons, ki, qA r]; omega
theorem qp : ∀ l : List As, (gb l).length = l.length * 15
  | [] => rfl
  | e :: r => by simp only [gb, List.length_append, List.length_cons, jz, qp r]; omega
theorem uK : ∀ l : List St, (ng l).length = l.length * 35
  | [] => rfl
  | e :: r => by simp only [ng, List.length_append, List.length_cons, wV, uK r]; omega
theorem vP : ∀ l : List Pc, (rt l).length = l.length * 34
  | [] => rfl
  | e :: r => by simp only [rt, List.length_append, List.length_cons, xj, vP r]; omega
theorem lZ : ∀ a b : List Ex, cW (a ++ b) = cW a ++ cW b
  | [], b => rfl
  | e :: r, b => by simp only [List.cons_append, cW, lZ r b, List.append_assoc]
theorem uC : ∀ a b : List St, ng (a ++ b) = ng a ++ ng b
  | [], b => rfl
  | e :: r, b => by simp only [List.cons_append, ng, uC r b, List.append_assoc]
theorem wn : ∀ a b : List Pc, rt (a ++ b) = rt a ++ rt b
  | [], b => rfl
  | e :: r, b => by simp only [List.cons_append, rt, wn r b, List.append_assoc]
def exZ : Ex := .mk 0 0 [] []
def coZ : Co := .mk 0 [] []
def asZ : As := .mk 0 coZ exZ exZ [] 0 []
def stZ : St := .mk 0 [] [] [] exZ exZ coZ asZ [] [] [] [] []
def i3 : Option (Int × Nat) → AV
  | none => .c .nilIface
  | some (a, e) => .ifc 74 (.rf [inA a, .ifc 52 (inA (e : Int))] 0)
theorem dB : i3 none = .c .nilIface := rfl
theorem ie (a : Int) (e : Nat) : i3 (some (a, e)) = .ifc 74 (.rf [inA a, .ifc 52 (inA (e : Int))] 0) := rfl
theorem tN (a : Int) {e : Nat} (h : e ≠ 0) : i3 (some (a, e)) = jV a e := by
  unfold jV; rw [eA h]; rfl
@[go_sem] theorem Am (g : List (Nat × Nat)) (k : Nat) (o : Option (Int × Nat)) : ren g (k + 2) (i3 o) = i3 o := by
  cases o <;> rfl
@[go_sem] theorem zi (b k : Nat) (o : Option (Int × Nat)) : dK b (k + 2) (i3 o) = false := by
  cases o <;> rfl
@[go_sem] theorem At (o : Option (Int × Nat)) : (i3 o).one = true := by
  cases o <;> rfl
@[go_sem] theorem zw (o : Option (Int × Nat)) : dE (i3 o) = [i3 o] := by
  cases o <;> rfl
@[go_sem] theorem Al (ex : List Nat) (σ : ba) (k : Nat) (o : Option (Int × Nat)) : gz ex σ (k + 2) (i3 o) = i3 o := by
  cases o <;> rfl
@[go_sem] theorem zG (tk : Bool) (k : Nat) (o : Option (Int × Nat)) : names tk (k + 2) (i3 o) = [] := by
  cases o <;> rfl
def jW (t : Tok) : Prop := (t.kind = 1 ∨ t.kind = 2 ∨ t.kind = 3 ∨ t.kind = 4) ∧ (t.kind = 3 → (∀ c ∈ t.text, dF c = true) ∧ t.text.length ≤ 10) ∧ (t.text = [42] → t.kind = 4)
structure PS where
  l : List Tok
  end0 : Int
  depth : Int
  err : Option (Int × Nat)
  ok : ∀ t ∈ l, jW t
  short : l.length ≤ 65536
abbrev pA (s : PS) : AV := .bc [.sl (s.l.flatMap ee) s.l.length .none, inA s.end0, inA s.depth, i3 s.err] 58
def PS.at (s : PS) : Int := match s.l with
  | [] => s.end0
  | t :: _ => (t.at0 : Int)
def PS.fail (s : PS) (e : Nat) : PS := match s.err with
  | none => { s with err := some (s.at, e) }
  | some _ => s
def PS.drop (s : PS) : PS := { s with l := s.l.tail, ok := fun t h => s.ok t (List.mem_of_mem_tail h), short := Nat.le_trans (by simp) s.short }
def PS.is (s : PS) (w : Wd) : Bool := match s.err, s.l with
  | none, t :: _ => (t.kind == 2 || t.kind == 4) && t.text == w
  | _, _ => false
def PS.take (s : PS) (w : Wd) : Bool × PS := if s.is w then (true, s.drop) else (false, s)
def PS.due (s : PS) : List Wd → PS
  | [] => s
  | w :: r => if s.is w then s.drop.due r else s.fail 11
def PS.enter (s : PS) : PS := if 50 ≤ s.depth then s.fail 4 else { s with depth := IntKind.i64.wrap (s.depth + 1) }
def PS.leave (s : PS) : PS := { s with depth := IntKind.i64.wrap (s.depth - 1) }
def PS.open' (s : PS) (w : Wd) : PS := (if s.is w then s.enter else s).due [w]
def PS.kind (s : PS) (k : Nat) : Bool := match s.err, s.l with
  | none, t :: _ => t.kind == k
  | _, _ => false
def PS.word (s : PS) (k : Nat) : Wd × PS := if s.kind k then ((s.l.headD jp).text, s.drop) else ([], s.fail 11)
def g4 (n : Int) (c : UInt8) : Int := 10 * n + ((c.toNat : Int) - 48)
def im (t : Wd) : Int := t.foldl g4 0
def PS.number (s : PS) : Int × PS := (im (s.word 3).1, (s.word 3).2)
end Go.Proofs.YtpkcgdikbjaoaaaGreatDoor
namespace Go.Proofs.YtpkcgdikbjaoaaaGreatDoor
set_option linter.unusedSimpArgs false
set_option linter.unusedVariables false
open Go.RowKit
def PS.mu (s : PS) : Nat := match s.err with
  | none => s.l.length + 1
  | some _ => 0
def FU : Nat := 70000
theorem gH (s : PS) : s.mu < FU := by
  have := s.short
  unfold PS.mu FU; split <;> omega
theorem iu (s : PS) (e : Nat) : (s.fail e).mu ≤ s.mu := by
  obtain ⟨l, e0, d, er, ok, sh⟩ := s
  cases er
  · exact Nat.zero_le _
  · exact Nat.le_refl _
theorem jK {s : PS} {w : Wd} (h : s.is w = true) : s.err = none ∧ ∃ t r, s.l = t :: r := by
  unfold PS.is at h
  split at h
  · rename_i t r h1 h2; exact ⟨h1, t, r, h2⟩
  · cases h
theorem d5 {s : PS} {k : Nat} (h : s.kind k = true) : s.err = none ∧ ∃ t r, s.l = t :: r ∧ t.kind = k := by
  unfold PS.kind at h
  split at h
  · rename_i t r h1 h2; exact ⟨h1, t, r, h2, by simpa using h⟩
  · cases h
theorem px {s : PS} (h : s.err = none) {t : Tok} {r : List Tok} (hl : s.l = t :: r) : s.drop.mu + 1 = s.mu := by
  unfold PS.drop PS.mu
  simp only [h, hl, List.tail_cons, List.length_cons]
theorem cN {s : PS} {w : Wd} (h : s.is w = true) : s.drop.mu + 1 = s.mu := by
  obtain ⟨h1, t, r, h2⟩ := jK h
  exact px h1 h2
theorem cL (s : PS) : s.drop.mu ≤ s.mu := by
  unfold PS.drop PS.mu; simp only; split <;> simp
theorem sC (s : PS) (w : Wd) : (s.take w).2.mu ≤ s.mu := by
  unfold PS.take; split
  · exact cL s
  · exact Nat.le_refl _
theorem ct : ∀ (ws : List Wd) (s : PS), (s.due ws).mu ≤ s.mu
  | [], s => Nat.le_refl _
  | w :: r, s => by
    unfold PS.due; split
    · exact Nat.le_trans (ct r _) (cL s)
    · exact iu s 11
theorem kn (s : PS) : s.enter.mu ≤ s.mu := by
  unfold PS.enter; split
  · exact iu s 4
  · exact Nat.le_refl _
theorem g7 (s : PS) : s.leave.mu ≤ s.mu := Nat.le_refl _
theorem o8 (s : PS) (e : Nat) (w : Wd) : (s.fail e).is w = false := by
  unfold PS.fail
  cases h : s.err with
  | none => rfl
  | some x => simp only; unfold PS.is; rw [h]
theorem u3 {s : PS} {w : Wd} (h : s.is w = true) : s.enter.err = none → s.enter.is w = true ∧ s.enter.l = s.l := by
  unfold PS.enter
  split
  · unfold PS.fail
    rw [(jK h).1]
    intro h; cases h
  · intro _; exact ⟨h, rfl⟩
theorem gh (s : PS) (w : Wd) : (s.open' w).mu ≤ s.mu := by
  unfold PS.open'
  refine Nat.le_trans (ct _ _) ?_
  split
  · exact kn s
  · exact Nat.le_refl _
theorem ix {s : PS} {w : Wd} (h : s.is w = true) : (s.open' w).mu < s.mu := by
  have h0 : 0 < s.mu := by have := cN h; omega
  unfold PS.open'
  rw [if_pos h]
  unfold PS.due
  split
  · rename_i h1
    have := cN h1
    have := kn s
    unfold PS.due; omega
  · rename_i h1
    have h2 : s.enter.err ≠ none := fun e => h1 (u3 h e).1
    have h3 : (s.enter.fail 11).mu = 0 := by
      unfold PS.fail PS.mu
      cases h4 : s.enter.err with
      | none => exact absurd h4 h2
      | some x => simp [h4]
    omega
theorem fc (s : PS) (k : Nat) : (s.word k).2.mu ≤ s.mu := by
  unfold PS.word; split
  · exact cL s
  · exact iu s 11
theorem jN (s : PS) : s.number.2.mu ≤ s.mu := fc s 3
theorem j6 {s : PS} {k : Nat} (h : s.kind k = true) : (s.word k).2.mu < s.mu := by
  obtain ⟨h1, t, r, h2, _⟩ := d5 h
  unfold PS.word; rw [if_pos h]
  have := px h1 h2
  simp only; omega
def fN {α : Type} (w : Wd) (g : PS → α × PS) : Nat → List α → PS → List α × PS
  | 0, out, s => (out, s)
  | f + 1, out, s => if s.is w then fN w g f (out ++ [(g s.drop).1]) (g s.drop).2 else (out, s)
def fk {α : Type} (w : Wd) (mk : α → α → α) (g : PS → α × PS) : Nat → α → PS → α × PS
  | 0, out, s => (out, s)
  | f + 1, out, s => if s.is w then fk w mk g f (mk out (g s.drop).1) (g s.drop).2 else (out, s)
theorem lP {α : Type} {w : Wd} {g : PS → α × PS} (hg : ∀ s, (g s).2.mu ≤ s.mu) : ∀ (f : Nat) (out : List α) (s : PS), (fN w g f out s).2.mu ≤ s.mu
  | 0, out, s => Nat.le_refl _
  | f + 1, out, s => by
    unfold fN; split
    · exact Nat.le_trans (lP hg f _ _) (Nat.le_trans (hg _) (cL s))
    · exact Nat.le_refl _
theorem kI {α : Type} {w : Wd} {mk : α → α → α} {g : PS → α × PS} (hg : ∀ s, (g s).2.mu ≤ s.mu) : ∀ (f : Nat) (out : α) (s : PS), (fk w mk g f out s).2.mu ≤ s.mu
  | 0, out, s => Nat.le_refl _
  | f + 1, out, s => by
    unfold fk; split
    · exact Nat.le_trans (kI hg f _ _) (Nat.le_trans (hg _) (cL s))
    · exact Nat.le_refl _
def PS.names (s : PS) (u : Wd) : List Wd × PS := if s.is u then ([], s) else fN [44] (fun s => s.word 1) FU [(s.word 1).1] (s.word 1).2
def fE (prod : PS → Ex × PS) : Nat → Ex → PS → Ex × PS
  | 0, e, s => (e, s)
  | f + 1, e, s => if s.is [43] || s.is [45] then fE prod f (.mk (if s.is [45] then 3 else 2) 0 [] [e, (prod s.drop).1]) (prod s.drop).2 else (e, s)
def jg (prod : PS → Ex × PS) (s : PS) : Ex × PS := fE prod FU (prod s).1 (prod s).2
def PS.times (s : PS) : Bool := match s.l with
  | _ :: t :: _ => t.kind == 4 && t.text == [42]
  | _ => false
def eN (prod : PS → Ex × PS) (sign : Int) (s : PS) : Ex × PS :=
  let s1 := if s.times then s.enter else s
  let n := IntKind.i64.wrap (sign * s1.number.1)
  if s.times then
    let r := prod (s1.number.2.due [[42]])
    (.mk 4 n [] [r.1], r.2.leave)
  else (.mk 0 n [] [], s1.number.2)
def i6 (prod : PS → Ex × PS) (s : PS) : Ex × PS :=
  let m := s.is [45]
  let s1 := (s.take [45]).2
  if m && !s1.kind 3 then (exZ, s1.fail 11)
  else if s1.kind 3 then eN prod (if m then -1 else 1) s1
  else if s1.is [40] then
    let p := jg prod (s1.open' [40])
    (p.1, (p.2.due [[41]]).leave)
  else (.mk 1 0 (s1.word 1).1 [], (s1.word 1).2)
def mR : Nat → PS → Ex × PS
  | 0, s => (exZ, s)
  | f + 1, s => i6 (mR f) s
def du (s : PS) : Ex × PS := jg (mR FU) s
theorem nY {g : PS → Ex × PS} (hg : ∀ s, (g s).2.mu ≤ s.mu) : ∀ (f : Nat) (out : Ex) (s : PS), (fE g f out s).2.mu ≤ s.mu
  | 0, out, s => Nat.le_refl _
  | f + 1, out, s => by
    unfold fE; split
    · exact Nat.le_trans (nY hg f _ _) (Nat.le_trans (hg _) (cL s))
    · exact Nat.le_refl _
theorem pQ {g : PS → Ex × PS} (hg : ∀ s, (g s).2.mu ≤ s.mu) (s : PS) : (jg g s).2.mu ≤ s.mu := Nat.le_trans (nY hg _ _ _) (hg s)
theorem rB {g : PS → Ex × PS} (hg : ∀ s, (g s).2.mu ≤ s.mu) (k : Int) (s : PS) : (eN g k s).2.mu ≤ s.mu := by
  unfold eN
  simp only
  split
  · exact Nat.le_trans (g7 _) (Nat.le_trans (hg _) (Nat.le_trans (ct _ _) (Nat.le_trans (jN _) (kn s))))
  · exact jN _
theorem vH {g : PS → Ex × PS} (hg : ∀ s, (g s).2.mu ≤ s.mu) (s : PS) : (i6 g s).2.mu ≤ s.mu := by
  have h1 := sC s [45]
  unfold i6
  simp only
  split
  · exact Nat.le_trans (iu _ _) h1
  · split
    · exact Nat.le_trans (rB hg _ _) h1
    · split
      · exact Nat.le_trans (g7 _) (Nat.le_trans (ct _ _) (Nat.le_trans (pQ hg _) (Nat.le_trans (gh _ _) h1)))
      · exact Nat.le_trans (fc _ _) h1
theorem kj : ∀ (f : Nat) (s : PS), (mR f s).2.mu ≤ s.mu
  | 0, s => Nat.le_refl _
  | f + 1, s => vH (kj f) s
theorem eW (s : PS) : (du s).2.mu ≤ s.mu := pQ (kj FU) s
def PS.exprs (s : PS) (u : Wd) : List Ex × PS := if s.is u then ([], s) else fN [44] du FU [(du s).1] (du s).2
def lF (one : PS → Co × PS) (s : PS) : Co × PS := fk [38, 38] (fun a b => .mk 7 [] [a, b]) one FU (one s).1 (one s).2
def iZ (one : PS → Co × PS) (s : PS) : Co × PS := fk [124, 124] (fun a b => .mk 8 [] [a, b]) (lF one) FU (lF one s).1 (lF one s).2
def PS.cmp (s : PS) : Nat × PS :=
  if s.is [61, 61] then (2, s.drop) else if s.is [33, 61] then (3, s.drop) else if s.is [60] then (4, s.drop) else if s.is [60, 61] then (5, s.drop) else (2, s.fail 11)
def eE (one : PS → Co × PS) (s : PS) : Co × PS :=
  let p := iZ one (s.open' [91])
  (p.1, (p.2.due [[93]]).leave)
def l6 (one : PS → Co × PS) (s : PS) : Co × PS :=
  if s.is [33] then
    let p := one (s.open' [33])
    (.mk 6 [] [p.1], p.2.leave)
  else if s.is [91] then eE one s
  else if s.is [116, 114, 117, 101] then (coZ, s.drop)
  else if s.is [102, 97, 108, 115, 101] then (.mk 1 [] [], s.drop)
  else
    let p := du s
    let c := p.2.cmp
    let q := du c.2
    (.mk c.1 [p.1, q.1] [], q.2)
def rc : Nat → PS → Co × PS
  | 0, s => (coZ, s)
  | f + 1, s => l6 (rc f) s
def gL (s : PS) : Co × PS := iZ (rc FU) s
def fA (s : PS) : Co × PS := eE (rc FU) s
theorem yS (s : PS) : s.cmp.2.mu ≤ s.mu := by
  unfold PS.cmp
  repeat' split
  all_goals first | exact cL s | exact iu s 11
theorem oJ {g : PS → Co × PS} (hg : ∀ s, (g s).2.mu ≤ s.mu) (s : PS) : (lF g s).2.mu ≤ s.mu := Nat.le_trans (kI hg _ _ _) (hg s)
theorem p8 {g : PS → Co × PS} (hg : ∀ s, (g s).2.mu ≤ s.mu) (s : PS) : (iZ g s).2.mu ≤ s.mu := Nat.le_trans (kI (oJ hg) _ _ _) (oJ hg s)
theorem lB {g : PS → Co × PS} (hg : ∀ s, (g s).2.mu ≤ s.mu) (s : PS) : (eE g s).2.mu ≤ s.mu :=
  Nat.le_trans (g7 _) (Nat.le_trans (ct _ _) (Nat.le_trans (p8 hg _) (gh _ _)))
theorem xA {g : PS → Co × PS} (hg : ∀ s, (g s).2.mu ≤ s.mu) (s : PS) : (l6 g s).2.mu ≤ s.mu := by
  unfold l6
  simp only
  split
  · exact Nat.le_trans (g7 _) (Nat.le_trans (hg _) (gh _ _))
  · split
    · exact lB hg s
    · split
      · exact cL s
      · split
        · exact cL s
        · exact Nat.le_trans (eW _) (Nat.le_trans (yS _) (eW s))
theorem jJ : ∀ (f : Nat) (s : PS), (rc f s).2.mu ≤ s.mu
  | 0, s => Nat.le_refl _
  | f + 1, s => xA (jJ f) s
theorem eZ (s : PS) : (gL s).2.mu ≤ s.mu := p8 (jJ FU) s
theorem pR (s : PS) : (fA s).2.mu ≤ s.mu := lB (jJ FU) s
end Go.Proofs.YtpkcgdikbjaoaaaGreatDoor
namespace Go.Proofs.YtpkcgdikbjaoaaaGreatDoor
set_option linter.unusedSimpArgs false
set_option linter.unusedVariables false
open Go.RowKit
def PS.place (s : PS) : Ex × Wd × PS :=
  let p := du s
  let q := (p.2.due [[46]]).word 1
  (p.1, q.1, q.2)
theorem g9 (s : PS) : s.place.2.2.mu ≤ s.mu := Nat.le_trans (fc _ _) (Nat.le_trans (ct _ _) (eW s))
def eJ (assn : PS → As × PS) (a b : Wd) (s : PS) : As × PS :=
  let p := assn (s.open' a)
  (p.1, (p.2.due [b]).leave)
def i0 (item : PS → As × PS) (s : PS) : As × PS := fk [38] (fun a b => .mk 4 coZ exZ exZ [] 0 [a, b]) item FU (item s).1 (item s).2
def PS.cell (s : PS) (pts : Bool) : As × PS :=
  let p := (s.due [[40]]).place
  let q := (p.2.2.due [[44]]).number
  if pts then
    let v := du (q.2.due [[44]])
    (.mk 3 coZ p.1 v.1 p.2.1 q.1 [], v.2.due [[41]])
  else (.mk 2 coZ p.1 exZ p.2.1 q.1 [], q.2.due [[41]])
def jk (assn : PS → As × PS) (s : PS) : As × PS :=
  if s.is [101, 109, 112] then (asZ, s.drop)
  else if s.is [91] then
    let c := fA s
    (.mk 1 c.1 exZ exZ [] 0 [], c.2)
  else if s.is [97, 99, 99] || s.is [112, 116, 115] then s.drop.cell (s.is [112, 116, 115])
  else if s.is [105, 102] then
    let c := gL s.drop
    let x := eJ assn [123] [125] c.2
    let y := eJ assn [123] [125] (x.2.due [[101, 108, 115, 101]])
    (.mk 5 c.1 exZ exZ [] 0 [x.1, y.1], y.2)
  else if s.is [40] then eJ assn [40] [41] s
  else (asZ, s.fail 11)
def l4 : Nat → PS → As × PS
  | 0, s => (asZ, s)
  | f + 1, s => jk (i0 (l4 f)) s
def iX (s : PS) : As × PS := i0 (l4 FU) s
theorem mL {g : PS → As × PS} (hg : ∀ s, (g s).2.mu ≤ s.mu) (s : PS) : (i0 g s).2.mu ≤ s.mu := Nat.le_trans (kI hg _ _ _) (hg s)
theorem iq {g : PS → As × PS} (hg : ∀ s, (g s).2.mu ≤ s.mu) (a b : Wd) (s : PS) : (eJ g a b s).2.mu ≤ s.mu :=
  Nat.le_trans (g7 _) (Nat.le_trans (ct _ _) (Nat.le_trans (hg _) (gh _ _)))
theorem wN (s : PS) (b : Bool) : (s.cell b).2.mu ≤ s.mu := by
  have h1 := Nat.le_trans (g9 (s.due [[40]])) (ct _ s)
  have h2 := Nat.le_trans (jN _) (Nat.le_trans (ct [[44]] _) h1)
  unfold PS.cell
  simp only
  split
  · exact Nat.le_trans (ct _ _) (Nat.le_trans (eW _) (Nat.le_trans (ct _ _) h2))
  · exact Nat.le_trans (ct _ _) h2
theorem vQ {g : PS → As × PS} (hg : ∀ s, (g s).2.mu ≤ s.mu) (s : PS) : (jk g s).2.mu ≤ s.mu := by
  unfold jk
  simp only
  split
  · exact cL s
  split
  · exact pR s
  split
  · exact Nat.le_trans (wN _ _) (cL s)
  split
  · exact Nat.le_trans (iq hg _ _ _) (Nat.le_trans (ct _ _) (Nat.le_trans (iq hg _ _ _) (Nat.le_trans (eZ _) (cL s))))
  split
  · exact iq hg _ _ _
  · exact iu _ _
theorem kL : ∀ (f : Nat) (s : PS), (l4 f s).2.mu ≤ s.mu
  | 0, s => Nat.le_refl _
  | f + 1, s => vQ (mL (kL f)) s
theorem jq (s : PS) : (iX s).2.mu ≤ s.mu := mL (kL FU) s
def PS.call (s : PS) : St × PS :=
  let x := (s.due [[99, 97, 108, 108]]).word 1
  let a := (x.2.due [[40]]).exprs [59]
  let g := (a.2.due [[59]]).exprs [41]
  (.mk 9 [] [] x.1 exZ exZ coZ asZ a.1 g.1 [] [] [], g.2.due [[41]])
def St.named (x : Wd) : St → St
  | .mk k _ f y e v c a rs gs fs b l => .mk k x f y e v c a rs gs fs b l
def PS.set (s : PS) : St × PS :=
  let x := s.word 1
  let s1 := x.2.due [[58, 61]]
  if s1.is [103, 101, 116] then
    let p := s1.drop.place
    (.mk 2 x.1 p.2.1 [] p.1 exZ coZ asZ [] [] [] [] [], p.2.2)
  else if s1.is [110, 101, 119] then
    let n := (s1.drop.due [[40]]).word 1
    let r := fN [44] (fun s => s.word 1) FU [n.1] n.2
    (.mk 4 x.1 [] [] exZ exZ coZ asZ [] [] r.1 [] [], r.2.due [[41]])
  else if s1.is [99, 97, 108, 108] then (s1.call.1.named x.1, s1.call.2)
  else
    let e := du s1
    (.mk 1 x.1 [] [] e.1 exZ coZ asZ [] [] [] [] [], e.2)
def fe (stmt : PS → St × PS) : Nat → List St → PS → List St × PS
  | 0, out, s => (out, s)
  | f + 1, out, s => if s.err.isNone && !s.is [125] then fe stmt f (out ++ [(stmt s).1]) (stmt s).2 else (out, s)
def g5 (stmt : PS → St × PS) (s : PS) : List St × PS :=
  let p := fe stmt FU [] (s.open' [123])
  (p.1, (p.2.due [[125]]).leave)
def il (block : PS → List St × PS) (s : PS) : St × PS :=
  if s.is [115, 107, 105, 112] then (stZ, s.drop.due [[59]])
  else if s.is [112, 117, 116] then
    let p := s.drop.place
    let v := du (p.2.2.due [[58, 61]])
    (.mk 3 [] p.2.1 [] p.1 v.1 coZ asZ [] [] [] [] [], v.2.due [[59]])
  else if s.is [102, 114, 101, 101] then
    let p := s.drop.place
    (.mk 5 [] p.2.1 [] p.1 exZ coZ asZ [] [] [] [] [], p.2.2.due [[59]])
  else if s.is [97, 115, 115, 101, 114, 116] then
    let c := gL s.drop
    (.mk 8 [] [] [] exZ exZ c.1 asZ [] [] [] [] [], c.2.due [[59]])
  else if s.is [99, 97, 108, 108] then (s.call.1, s.call.2.due [[59]])
  else if s.kind 1 then (s.set.1, s.set.2.due [[59]])
  else if s.is [105, 102] then
    let c := gL s.drop
    let b := block c.2
    let l := block (b.2.due [[101, 108, 115, 101]])
    (.mk 6 [] [] [] exZ exZ c.1 asZ [] [] [] b.1 l.1, l.2)
  else if s.is [119, 104, 105, 108, 101] then
    let c := gL s.drop
    let a := iX (c.2.due [[105, 110, 118, 97, 114, 105, 97, 110, 116]])
    let b := block a.2
    (.mk 7 [] [] [] exZ exZ c.1 a.1 [] [] [] b.1 [], b.2)
  else (stZ, (s.fail 11).due [[59]])
def lC : Nat → PS → St × PS
  | 0, s => (stZ, s)
  | f + 1, s => il (g5 (lC f)) s
def gZ (s : PS) : List St × PS := g5 (lC FU) s
def PS.proc (s : PS) : Pc × PS :=
  let x := (s.due [[112, 114, 111, 99]]).word 1
  let p := (x.2.due [[40]]).names [59]
  let g := (p.2.due [[59]]).names [41]
  let a := iX (g.2.due [[41], [114, 101, 113, 117, 105, 114, 101, 115]])
  let b := iX (a.2.due [[101, 110, 115, 117, 114, 101, 115]])
  let c := gZ b.2
  (⟨x.1, p.1, g.1, a.1, b.1, c.1⟩, c.2)
def dL : Nat → List Pc → PS → List Pc × PS
  | 0, out, s => (out, s)
  | f + 1, out, s => if s.err.isNone && !s.l.isEmpty then dL f (out ++ [s.proc.1]) s.proc.2 else (out, s)
theorem qB (s : PS) (u : Wd) : (s.names u).2.mu ≤ s.mu := by
  unfold PS.names; split
  · exact Nat.le_refl _
  · exact Nat.le_trans (lP (fun s => fc s 1) _ _ _) (fc s 1)
theorem qU (s : PS) (u : Wd) : (s.exprs u).2.mu ≤ s.mu := by
  unfold PS.exprs; split
  · exact Nat.le_refl _
  · exact Nat.le_trans (lP eW _ _ _) (eW s)
theorem nI {g : PS → St × PS} (hg : ∀ s, (g s).2.mu ≤ s.mu) : ∀ (f : Nat) (out : List St) (s : PS), (fe g f out s).2.mu ≤ s.mu
  | 0, out, s => Nat.le_refl _
  | f + 1, out, s => by
    unfold fe; split
    · exact Nat.le_trans (nI hg f _ _) (hg _)
    · exact Nat.le_refl _
theorem jM {g : PS → St × PS} (hg : ∀ s, (g s).2.mu ≤ s.mu) (s : PS) : (g5 g s).2.mu ≤ s.mu :=
  Nat.le_trans (g7 _) (Nat.le_trans (ct _ _) (Nat.le_trans (nI hg _ _ _) (gh _ _)))
theorem nB {s : PS} (h : s.err = none) (w : Wd) (ws : List Wd) : (s.due (w :: ws)).mu < s.mu := by
  have h0 : 0 < s.mu := by unfold PS.mu; rw [h]; simp
  unfold PS.due
  split
  · rename_i hw
    have := cN hw
    have := ct ws s.drop
    omega
  · have : (s.fail 11).mu = 0 := by unfold PS.fail PS.mu; simp [h]
    omega
theorem ov (s : PS) : s.call.2.mu ≤ (s.due [[99, 97, 108, 108]]).mu := by
  unfold PS.call
  simp only
  exact Nat.le_trans (ct _ _) (Nat.le_trans (qU _ _) (Nat.le_trans (ct _ _) (Nat.le_trans (qU _ _) (Nat.le_trans (ct _ _) (fc _ _)))))
theorem uH (s : PS) : s.set.2.mu ≤ (s.word 1).2.mu := by
  have h1 := ct [[58, 61]] (s.word 1).2
  unfold PS.set
  simp only
  split
  · exact Nat.le_trans (g9 _) (Nat.le_trans (cL _) h1)
  split
  · exact Nat.le_trans (ct _ _) (Nat.le_trans (lP (fun s => fc s 1) _ _ _) (Nat.le_trans (fc _ _) (Nat.le_trans (ct _ _) (Nat.le_trans (cL _) h1))))
  split
  · exact Nat.le_trans (ov _) (Nat.le_trans (ct _ _) h1)
  · exact Nat.le_trans (eW _) h1
theorem ww {g : PS → List St × PS} (hg : ∀ s, (g s).2.mu ≤ s.mu) {s : PS} (h : s.err = none) : (il g s).2.mu < s.mu := by
  unfold il
  simp only
  split
  · rename_i hw; have := cN hw; have := ct [[59]] s.drop; (try simp only); omega
  split
  · rename_i hw; have := cN hw
    have := Nat.le_trans (ct [[59]] _) (Nat.le_trans (eW _) (Nat.le_trans (ct [[58, 61]] _) (g9 s.drop))); (try simp only); omega
  split
  · rename_i hw; have := cN hw
    have := Nat.le_trans (ct [[59]] _) (g9 s.drop); (try simp only); omega
  split
  · rename_i hw; have := cN hw
    have := Nat.le_trans (ct [[59]] _) (eZ s.drop); (try simp only); omega
  split
  · have := nB h [99, 97, 108, 108] []
    have := Nat.le_trans (ct [[59]] _) (ov s); (try simp only); omega
  split
  · rename_i hk
    have := j6 hk
    have := Nat.le_trans (ct [[59]] _) (uH s); (try simp only); omega
  split
  · rename_i hw; have := cN hw
    have := Nat.le_trans (hg _) (Nat.le_trans (ct [[101, 108, 115, 101]] _) (Nat.le_trans (hg _) (eZ s.drop))); (try simp only); omega
  split
  · rename_i hw; have := cN hw
    have := Nat.le_trans (hg _) (Nat.le_trans (jq _) (Nat.le_trans (ct [[105, 110, 118, 97, 114, 105, 97, 110, 116]] _) (eZ s.drop))); (try simp only); omega
  · have h0 : 0 < s.mu := by unfold PS.mu; rw [h]; simp
    have h1 : (s.fail 11).mu = 0 := by unfold PS.fail PS.mu; simp [h]
    have := ct [[59]] (s.fail 11); (try simp only); omega
theorem vr {g : PS → List St × PS} (hg : ∀ s, (g s).2.mu ≤ s.mu) (s : PS) : (il g s).2.mu ≤ s.mu := by
  unfold il
  simp only
  split
  · exact Nat.le_trans (ct _ _) (cL s)
  split
  · exact Nat.le_trans (ct [[59]] _) (Nat.le_trans (eW _) (Nat.le_trans (ct [[58, 61]] _) (Nat.le_trans (g9 s.drop) (cL s))))
  split
  · exact Nat.le_trans (ct [[59]] _) (Nat.le_trans (g9 s.drop) (cL s))
  split
  · exact Nat.le_trans (ct [[59]] _) (Nat.le_trans (eZ s.drop) (cL s))
  split
  · exact Nat.le_trans (ct [[59]] _) (Nat.le_trans (ov s) (ct _ _))
  split
  · exact Nat.le_trans (ct [[59]] _) (Nat.le_trans (uH s) (fc _ _))
  split
  · exact Nat.le_trans (hg _) (Nat.le_trans (ct _ _) (Nat.le_trans (hg _) (Nat.le_trans (eZ s.drop) (cL s))))
  split
  · exact Nat.le_trans (hg _) (Nat.le_trans (jq _) (Nat.le_trans (ct _ _) (Nat.le_trans (eZ s.drop) (cL s))))
  · exact Nat.le_trans (ct _ _) (iu _ _)
theorem hH : ∀ (f : Nat) (s : PS), (lC f s).2.mu ≤ s.mu
  | 0, s => Nat.le_refl _
  | f + 1, s => vr (jM (hH f)) s
theorem tW (s : PS) : (gZ s).2.mu ≤ s.mu := jM (hH FU) s
theorem xX {s : PS} (h : s.err = none) : s.proc.2.mu < s.mu := by
  have h1 := nB h [112, 114, 111, 99] []
  have h2 : s.proc.2.mu ≤ (s.due [[112, 114, 111, 99]]).mu := by
    unfold PS.proc
    simp only
    exact Nat.le_trans (tW _) (Nat.le_trans (jq _) (Nat.le_trans (ct _ _) (Nat.le_trans (jq _) (Nat.le_trans (ct _ _) (Nat.le_trans (qB _ _) (Nat.le_trans (ct _ _) (Nat.le_trans (qB _ _) (Nat.le_trans (ct _ _) (fc _ _)))))))))
  omega
end Go.Proofs.YtpkcgdikbjaoaaaGreatDoor
namespace Go.Proofs.YtpkcgdikbjaoaaaGreatDoor
set_option linter.unusedSimpArgs false
set_option linter.unusedVariables false
open Go.RowKit
mutual
def stW : St → List AV
  | .mk k x f y e v c a rs gs fs b l => (([inA (k : Int), bs x, bs f, bs y] ++ exA e ++ exA v ++ coA c ++ asA a ++ [.sl (cW rs) rs.length .none, .sl (cW gs) gs.length .none, .sl (fs.map bs) fs.length .none, .sl (ez b) b.length .none, .sl (ez l) l.length .none] : List AV)).map (wkA 1)
def ez : List St → List AV
  | [] => []
  | e :: r => stW e ++ ez r
end
def stR (o1 o2 o3 o4 o5 : Own) : St → List AV
  | .mk k x f y e v c a rs gs fs b l => [inA (k : Int), bs x, bs f, bs y] ++ exA e ++ exA v ++ coA c ++ asA a ++ [.sl (cW rs) rs.length o1, .sl (cW gs) gs.length o2, .sl (fs.map bs) fs.length o3, .sl (ez b) b.length o4, .sl (ez l) l.length o5]
theorem m9 {cs : List AV} {n : Nat} {o : Own} (h : o = .none ∨ o = .full) : wkA 1 (.sl cs n o) = .sl cs n .none := by
  rcases h with rfl | rfl <;> rfl
theorem eP {o1 o2 o3 o4 o5 : Own} (h1 : o1 = .none ∨ o1 = .full) (h2 : o2 = .none ∨ o2 = .full) (h3 : o3 = .none ∨ o3 = .full) (h4 : o4 = .none ∨ o4 = .full) (h5 : o5 = .none ∨ o5 = .full) (s : St) :
    wkA 2 (.agg (stR o1 o2 o3 o4 o5 s)) = .agg (stW s) := by
  obtain ⟨k, x, f, y, e, v, c, a, rs, gs, fs, b, l⟩ := s
  show AV.agg ((stR o1 o2 o3 o4 o5 _).map (wkA 1)) = _
  simp only [stR, stW, List.map_append, List.map_cons, List.map_nil, m9 h1, m9 h2, m9 h3, m9 h4, m9 h5]
  rfl
def pcW (p : Pc) : List AV := [bs p.name, .sl (p.params.map bs) p.params.length .none, .sl (p.ghosts.map bs) p.ghosts.length .none] ++ asA p.pre ++ asA p.post ++ [.sl (ez p.body) p.body.length .none]
def fU : List Pc → List AV
  | [] => []
  | e :: r => pcW e ++ fU r
theorem th : ∀ e, (stW e).length = 35
  | .mk k x f y e v c a rs gs fs b l => by simp [stW, ki, kD, jz]
theorem tc (p : Pc) : (pcW p).length = 34 := by simp [pcW, jz]
theorem kC : ∀ l : List St, (ez l).length = l.length * 35
  | [] => rfl
  | e :: r => by simp only [ez, List.length_append, List.length_cons, th, kC r]; omega
theorem kr : ∀ l : List Pc, (fU l).length = l.length * 34
  | [] => rfl
  | e :: r => by simp only [fU, List.length_append, List.length_cons, tc, kr r]; omega
theorem mf : ∀ a b : List St, ez (a ++ b) = ez a ++ ez b
  | [], b => rfl
  | e :: r, b => by simp only [List.cons_append, ez, mf r b, List.append_assoc]
theorem mO : ∀ a b : List Pc, fU (a ++ b) = fU a ++ fU b
  | [], b => rfl
  | e :: r, b => by simp only [List.cons_append, fU, mO r b, List.append_assoc]
end Go.Proofs.YtpkcgdikbjaoaaaGreatDoor

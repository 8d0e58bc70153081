/- Programs as data, and their trees; the parser's state. The parser, as functions of its state. No program is in sight, but for the trees. The parser, as functions of its state: assertions, statements, programs. No program is in sight, but for the trees. Statements, procedures, and their trees: every slice in a statement's own cells is told without its capacity. -/
import Derived.Test.YtpkcgdikbjaoaaaDoorZ11
import Derived.Test.YtpkcgdikbjaoaaaDoorZ7
import Derived.Test.YtpkcgdikbjaoaaaDoorZ6
namespace Go.Proofs.YtpkcgdikbjaoaaaDoor
set_option linter.unusedSimpArgs false
set_option linter.unusedVariables false
open Go.RowKit
abbrev Wd := List UInt8
abbrev inA (n : Int) : AV := .c (.int .i64 n)
inductive Ex where
  | mk (kind : Nat) (n : Int) (name : Wd) (kids : List Ex)
mutual
def exA : Ex → List AV
  | .mk k n x ks => [inA (k : Int), inA n, bs x, .sl (b4 ks) ks.length .full]
def b4 : List Ex → List AV
  | [] => []
  | e :: r => exA e ++ b4 r
end
inductive Co where
  | mk (kind : Nat) (e : List Ex) (kids : List Co)
mutual
def coA : Co → List AV
  | .mk k e ks => [inA (k : Int), .sl (b4 e) e.length .full, .sl (eG ks) ks.length .full]
def eG : List Co → List AV
  | [] => []
  | e :: r => coA e ++ eG r
end
inductive As where
  | mk (kind : Nat) (c : Co) (e v : Ex) (field : Wd) (n : Int) (kids : List As)
mutual
def asA : As → List AV
  | .mk k c e v f n ks => [inA (k : Int)] ++ coA c ++ exA e ++ exA v ++ [bs f, inA n, .sl (gK ks) ks.length .full]
def gK : List As → List AV
  | [] => []
  | e :: r => asA e ++ gK r
end
inductive St where
  | mk (kind : Nat) (name field callee : Wd) (e v : Ex) (c : Co) (a : As) (args ghosts : List Ex) (fields : List Wd) (body els : List St)
mutual
def stA : St → List AV
  | .mk k x f y e v c a rs gs fs b l => [inA (k : Int), bs x, bs f, bs y] ++ exA e ++ exA v ++ coA c ++ asA a ++ [.sl (b4 rs) rs.length .none, .sl (b4 gs) gs.length .none, .sl (fs.map bs) fs.length .none, .sl (jW b) b.length .none, .sl (jW l) l.length .none]
def jW : List St → List AV
  | [] => []
  | e :: r => stA e ++ jW r
end
structure Pc where
  name : Wd
  params : List Wd
  ghosts : List Wd
  pre : As
  post : As
  body : List St
def pcA (p : Pc) : List AV := [bs p.name, .sl (p.params.map bs) p.params.length .none, .sl (p.ghosts.map bs) p.ghosts.length .none] ++ asA p.pre ++ asA p.post ++ [.sl (jW p.body) p.body.length .none]
def mM : List Pc → List AV
  | [] => []
  | e :: r => pcA e ++ mM r
theorem gE : ∀ e, (exA e).length = 4
  | .mk k n x ks => by simp [exA]
theorem gI : ∀ e, (coA e).length = 3
  | .mk k e ks => by simp [coA]
theorem gb : ∀ e, (asA e).length = 15
  | .mk k c e v f n ks => by simp [asA, gI, gE]
theorem qB : ∀ e, (stA e).length = 35
  | .mk k x f y e v c a rs gs fs b l => by simp [stA, gI, gE, gb]
theorem rM (p : Pc) : (pcA p).length = 34 := by simp [pcA, gb]
theorem jj : ∀ l : List Ex, (b4 l).length = l.length * 4
  | [] => rfl
  | e :: r => by simp only [b4, List.length_append, List.length_cons, gE, jj r]; omega
theorem lQ : ∀ l : List Co, (eG l).length = l.length * 3
  | [] => rfl
  | e :: r => by simp only [eG, List.length_append, List.length_cons, gI, lQ r]; omega
theorem lA : ∀ l : List As, (gK l).length = l.length * 15
  | [] => rfl
  | e :: r => by simp only [gK, List.length_append, List.length_cons, gb, lA r]; omega
theorem pX : ∀ l : List St, (jW l).length = l.length * 35
  | [] => rfl
  | e :: r => by simp only [jW, List.length_append, List.length_cons, qB, pX r]; omega
theorem qq : ∀ l : List Pc, (mM l).length = l.length * 34
  | [] => rfl
  | e :: r => by simp only [mM, List.length_append, List.length_cons, rM, qq r]; omega
theorem lK : ∀ a b : List Ex, b4 (a ++ b) = b4 a ++ b4 b
  | [], b => rfl
  | e :: r, b => by simp only [List.cons_append, b4, lK r b, List.append_assoc]
theorem pC : ∀ a b : List St, jW (a ++ b) = jW a ++ jW b
  | [], b => rfl
  | e :: r, b => by simp only [List.cons_append, jW, pC r b, List.append_assoc]
theorem pk : ∀ a b : List Pc, mM (a ++ b) = mM a ++ mM b
  | [], b => rfl
  | e :: r, b => by simp only [List.cons_append, mM, pk r b, List.append_assoc]
def exZ : Ex := .mk 0 0 [] []
def coZ : Co := .mk 0 [] []
def asZ : As := .mk 0 coZ exZ exZ [] 0 []
def stZ : St := .mk 0 [] [] [] exZ exZ coZ asZ [] [] [] [] []
def gh : Option (Int × Nat) → AV
  | none => .c .nilIface
  | some (a, e) => .ifc 60 (.rf [inA a, .ifc 53 (inA (e : Int))] 0)
theorem b8 : gh none = .c .nilIface := rfl
theorem eA (a : Int) (e : Nat) : gh (some (a, e)) = .ifc 60 (.rf [inA a, .ifc 53 (inA (e : Int))] 0) := rfl
theorem tp (a : Int) {e : Nat} (h : e ≠ 0) : gh (some (a, e)) = iv a e := by
  unfold iv; rw [cO h]; rfl
@[go_sem] theorem tY (g : List (Nat × Nat)) (k : Nat) (o : Option (Int × Nat)) : ren g (k + 2) (gh o) = gh o := by
  cases o <;> rfl
@[go_sem] theorem sH (b k : Nat) (o : Option (Int × Nat)) : cd b (k + 2) (gh o) = false := by
  cases o <;> rfl
@[go_sem] theorem tZ (o : Option (Int × Nat)) : (gh o).one = true := by
  cases o <;> rfl
@[go_sem] theorem te (o : Option (Int × Nat)) : b9 (gh o) = [gh o] := by
  cases o <;> rfl
@[go_sem] theorem tM (ex : List Nat) (σ : aI) (k : Nat) (o : Option (Int × Nat)) : dX ex σ (k + 2) (gh o) = gh o := by
  cases o <;> rfl
@[go_sem] theorem tg (tk : Bool) (k : Nat) (o : Option (Int × Nat)) : names tk (k + 2) (gh o) = [] := by
  cases o <;> rfl
def jF (t : Tok) : Prop := (t.kind = 1 ∨ t.kind = 2 ∨ t.kind = 3 ∨ t.kind = 4) ∧ (t.kind = 3 → (∀ c ∈ t.text, di c = true) ∧ t.text.length ≤ 10) ∧ (t.text = [42] → t.kind = 4)
structure PS where
  l : List Tok
  end0 : Int
  depth : Int
  err : Option (Int × Nat)
  ok : ∀ t ∈ l, jF t
  short : l.length ≤ 65536
abbrev pA (s : PS) : AV := .bc [.sl (s.l.flatMap fL) s.l.length .none, inA s.end0, inA s.depth, gh s.err] 65
def PS.at (s : PS) : Int := match s.l with
  | [] => s.end0
  | t :: _ => (t.at0 : Int)
def PS.fail (s : PS) (e : Nat) : PS := match s.err with
  | none => { s with err := some (s.at, e) }
  | some _ => s
def PS.drop (s : PS) : PS := { s with l := s.l.tail, ok := fun t h => s.ok t (List.mem_of_mem_tail h), short := Nat.le_trans (by simp) s.short }
def PS.is (s : PS) (w : Wd) : Bool := match s.err, s.l with
  | none, t :: _ => (t.kind == 2 || t.kind == 4) && t.text == w
  | _, _ => false
def PS.take (s : PS) (w : Wd) : Bool × PS := if s.is w then (true, s.drop) else (false, s)
def PS.due (s : PS) : List Wd → PS
  | [] => s
  | w :: r => if s.is w then s.drop.due r else s.fail 11
def PS.enter (s : PS) : PS := if 50 ≤ s.depth then s.fail 4 else { s with depth := IntKind.i64.wrap (s.depth + 1) }
def PS.leave (s : PS) : PS := { s with depth := IntKind.i64.wrap (s.depth - 1) }
def PS.open' (s : PS) (w : Wd) : PS := (if s.is w then s.enter else s).due [w]
def PS.kind (s : PS) (k : Nat) : Bool := match s.err, s.l with
  | none, t :: _ => t.kind == k
  | _, _ => false
def PS.word (s : PS) (k : Nat) : Wd × PS := if s.kind k then ((s.l.headD jt).text, s.drop) else ([], s.fail 11)
def li (n : Int) (c : UInt8) : Int := 10 * n + ((c.toNat : Int) - 48)
def hE (t : Wd) : Int := t.foldl li 0
def PS.number (s : PS) : Int × PS := (hE (s.word 3).1, (s.word 3).2)
end Go.Proofs.YtpkcgdikbjaoaaaDoor
namespace Go.Proofs.YtpkcgdikbjaoaaaDoor
set_option linter.unusedSimpArgs false
set_option linter.unusedVariables false
open Go.RowKit
def PS.mu (s : PS) : Nat := match s.err with
  | none => s.l.length + 1
  | some _ => 0
def FU : Nat := 70000
theorem dR (s : PS) : s.mu < FU := by
  have := s.short
  unfold PS.mu FU; split <;> omega
theorem eY (s : PS) (e : Nat) : (s.fail e).mu ≤ s.mu := by
  obtain ⟨l, e0, d, er, ok, sh⟩ := s
  cases er
  · exact Nat.zero_le _
  · exact Nat.le_refl _
theorem gX {s : PS} {w : Wd} (h : s.is w = true) : s.err = none ∧ ∃ t r, s.l = t :: r := by
  unfold PS.is at h
  split at h
  · rename_i t r h1 h2; exact ⟨h1, t, r, h2⟩
  · cases h
theorem dP {s : PS} {k : Nat} (h : s.kind k = true) : s.err = none ∧ ∃ t r, s.l = t :: r ∧ t.kind = k := by
  unfold PS.kind at h
  split at h
  · rename_i t r h1 h2; exact ⟨h1, t, r, h2, by simpa using h⟩
  · cases h
theorem ld {s : PS} (h : s.err = none) {t : Tok} {r : List Tok} (hl : s.l = t :: r) : s.drop.mu + 1 = s.mu := by
  unfold PS.drop PS.mu
  simp only [h, hl, List.tail_cons, List.length_cons]
theorem bB {s : PS} {w : Wd} (h : s.is w = true) : s.drop.mu + 1 = s.mu := by
  obtain ⟨h1, t, r, h2⟩ := gX h
  exact ld h1 h2
theorem bx (s : PS) : s.drop.mu ≤ s.mu := by
  unfold PS.drop PS.mu; simp only; split <;> simp
theorem ng (s : PS) (w : Wd) : (s.take w).2.mu ≤ s.mu := by
  unfold PS.take; split
  · exact bx s
  · exact Nat.le_refl _
theorem bi : ∀ (ws : List Wd) (s : PS), (s.due ws).mu ≤ s.mu
  | [], s => Nat.le_refl _
  | w :: r, s => by
    unfold PS.due; split
    · exact Nat.le_trans (bi r _) (bx s)
    · exact eY s 11
theorem gF (s : PS) : s.enter.mu ≤ s.mu := by
  unfold PS.enter; split
  · exact eY s 4
  · exact Nat.le_refl _
theorem eK (s : PS) : s.leave.mu ≤ s.mu := Nat.le_refl _
theorem t7 (s : PS) (e : Nat) (w : Wd) : (s.fail e).is w = false := by
  unfold PS.fail
  cases h : s.err with
  | none => rfl
  | some x => simp only; unfold PS.is; rw [h]
theorem pO {s : PS} {w : Wd} (h : s.is w = true) : s.enter.err = none → s.enter.is w = true ∧ s.enter.l = s.l := by
  unfold PS.enter
  split
  · unfold PS.fail
    rw [(gX h).1]
    intro h; cases h
  · intro _; exact ⟨h, rfl⟩
theorem dH (s : PS) (w : Wd) : (s.open' w).mu ≤ s.mu := by
  unfold PS.open'
  refine Nat.le_trans (bi _ _) ?_
  split
  · exact gF s
  · exact Nat.le_refl _
theorem eS {s : PS} {w : Wd} (h : s.is w = true) : (s.open' w).mu < s.mu := by
  have h0 : 0 < s.mu := by have := bB h; omega
  unfold PS.open'
  rw [if_pos h]
  unfold PS.due
  split
  · rename_i h1
    have := bB h1
    have := gF s
    unfold PS.due; omega
  · rename_i h1
    have h2 : s.enter.err ≠ none := fun e => h1 (pO h e).1
    have h3 : (s.enter.fail 11).mu = 0 := by
      unfold PS.fail PS.mu
      cases h4 : s.enter.err with
      | none => exact absurd h4 h2
      | some x => simp [h4]
    omega
theorem cX (s : PS) (k : Nat) : (s.word k).2.mu ≤ s.mu := by
  unfold PS.word; split
  · exact bx s
  · exact eY s 11
theorem gd (s : PS) : s.number.2.mu ≤ s.mu := cX s 3
theorem gw {s : PS} {k : Nat} (h : s.kind k = true) : (s.word k).2.mu < s.mu := by
  obtain ⟨h1, t, r, h2, _⟩ := dP h
  unfold PS.word; rw [if_pos h]
  have := ld h1 h2
  simp only; omega
def eq {α : Type} (w : Wd) (g : PS → α × PS) : Nat → List α → PS → List α × PS
  | 0, out, s => (out, s)
  | f + 1, out, s => if s.is w then eq w g f (out ++ [(g s.drop).1]) (g s.drop).2 else (out, s)
def dE {α : Type} (w : Wd) (mk : α → α → α) (g : PS → α × PS) : Nat → α → PS → α × PS
  | 0, out, s => (out, s)
  | f + 1, out, s => if s.is w then dE w mk g f (mk out (g s.drop).1) (g s.drop).2 else (out, s)
theorem iT {α : Type} {w : Wd} {g : PS → α × PS} (hg : ∀ s, (g s).2.mu ≤ s.mu) : ∀ (f : Nat) (out : List α) (s : PS), (eq w g f out s).2.mu ≤ s.mu
  | 0, out, s => Nat.le_refl _
  | f + 1, out, s => by
    unfold eq; split
    · exact Nat.le_trans (iT hg f _ _) (Nat.le_trans (hg _) (bx s))
    · exact Nat.le_refl _
theorem gW {α : Type} {w : Wd} {mk : α → α → α} {g : PS → α × PS} (hg : ∀ s, (g s).2.mu ≤ s.mu) : ∀ (f : Nat) (out : α) (s : PS), (dE w mk g f out s).2.mu ≤ s.mu
  | 0, out, s => Nat.le_refl _
  | f + 1, out, s => by
    unfold dE; split
    · exact Nat.le_trans (gW hg f _ _) (Nat.le_trans (hg _) (bx s))
    · exact Nat.le_refl _
def PS.names (s : PS) (u : Wd) : List Wd × PS := if s.is u then ([], s) else eq [44] (fun s => s.word 1) FU [(s.word 1).1] (s.word 1).2
def eo (prod : PS → Ex × PS) : Nat → Ex → PS → Ex × PS
  | 0, e, s => (e, s)
  | f + 1, e, s => if s.is [43] || s.is [45] then eo prod f (.mk (if s.is [45] then 3 else 2) 0 [] [e, (prod s.drop).1]) (prod s.drop).2 else (e, s)
def gk (prod : PS → Ex × PS) (s : PS) : Ex × PS := eo prod FU (prod s).1 (prod s).2
def PS.times (s : PS) : Bool := match s.l with
  | _ :: t :: _ => t.kind == 4 && t.text == [42]
  | _ => false
def cY (prod : PS → Ex × PS) (sign : Int) (s : PS) : Ex × PS :=
  let s1 := if s.times then s.enter else s
  let n := IntKind.i64.wrap (sign * s1.number.1)
  if s.times then
    let r := prod (s1.number.2.due [[42]])
    (.mk 4 n [] [r.1], r.2.leave)
  else (.mk 0 n [] [], s1.number.2)
def gQ (prod : PS → Ex × PS) (s : PS) : Ex × PS :=
  let m := s.is [45]
  let s1 := (s.take [45]).2
  if m && !s1.kind 3 then (exZ, s1.fail 11)
  else if s1.kind 3 then cY prod (if m then -1 else 1) s1
  else if s1.is [40] then
    let p := gk prod (s1.open' [40])
    (p.1, (p.2.due [[41]]).leave)
  else (.mk 1 0 (s1.word 1).1 [], (s1.word 1).2)
def j7 : Nat → PS → Ex × PS
  | 0, s => (exZ, s)
  | f + 1, s => gQ (j7 f) s
def cb (s : PS) : Ex × PS := gk (j7 FU) s
theorem kp {g : PS → Ex × PS} (hg : ∀ s, (g s).2.mu ≤ s.mu) : ∀ (f : Nat) (out : Ex) (s : PS), (eo g f out s).2.mu ≤ s.mu
  | 0, out, s => Nat.le_refl _
  | f + 1, out, s => by
    unfold eo; split
    · exact Nat.le_trans (kp hg f _ _) (Nat.le_trans (hg _) (bx s))
    · exact Nat.le_refl _
theorem l9 {g : PS → Ex × PS} (hg : ∀ s, (g s).2.mu ≤ s.mu) (s : PS) : (gk g s).2.mu ≤ s.mu := Nat.le_trans (kp hg _ _ _) (hg s)
theorem mQ {g : PS → Ex × PS} (hg : ∀ s, (g s).2.mu ≤ s.mu) (k : Int) (s : PS) : (cY g k s).2.mu ≤ s.mu := by
  unfold cY
  simp only
  split
  · exact Nat.le_trans (eK _) (Nat.le_trans (hg _) (Nat.le_trans (bi _ _) (Nat.le_trans (gd _) (gF s))))
  · exact gd _
theorem pM {g : PS → Ex × PS} (hg : ∀ s, (g s).2.mu ≤ s.mu) (s : PS) : (gQ g s).2.mu ≤ s.mu := by
  have h1 := ng s [45]
  unfold gQ
  simp only
  split
  · exact Nat.le_trans (eY _ _) h1
  · split
    · exact Nat.le_trans (mQ hg _ _) h1
    · split
      · exact Nat.le_trans (eK _) (Nat.le_trans (bi _ _) (Nat.le_trans (l9 hg _) (Nat.le_trans (dH _ _) h1)))
      · exact Nat.le_trans (cX _ _) h1
theorem gU : ∀ (f : Nat) (s : PS), (j7 f s).2.mu ≤ s.mu
  | 0, s => Nat.le_refl _
  | f + 1, s => pM (gU f) s
theorem cU (s : PS) : (cb s).2.mu ≤ s.mu := l9 (gU FU) s
def PS.exprs (s : PS) (u : Wd) : List Ex × PS := if s.is u then ([], s) else eq [44] cb FU [(cb s).1] (cb s).2
def i4 (one : PS → Co × PS) (s : PS) : Co × PS := dE [38, 38] (fun a b => .mk 7 [] [a, b]) one FU (one s).1 (one s).2
def gj (one : PS → Co × PS) (s : PS) : Co × PS := dE [124, 124] (fun a b => .mk 8 [] [a, b]) (i4 one) FU (i4 one s).1 (i4 one s).2
def PS.cmp (s : PS) : Nat × PS :=
  if s.is [61, 61] then (2, s.drop) else if s.is [33, 61] then (3, s.drop) else if s.is [60] then (4, s.drop) else if s.is [60, 61] then (5, s.drop) else (2, s.fail 11)
def dm (one : PS → Co × PS) (s : PS) : Co × PS :=
  let p := gj one (s.open' [91])
  (p.1, (p.2.due [[93]]).leave)
def kU (one : PS → Co × PS) (s : PS) : Co × PS :=
  if s.is [33] then
    let p := one (s.open' [33])
    (.mk 6 [] [p.1], p.2.leave)
  else if s.is [91] then dm one s
  else if s.is [116, 114, 117, 101] then (coZ, s.drop)
  else if s.is [102, 97, 108, 115, 101] then (.mk 1 [] [], s.drop)
  else
    let p := cb s
    let c := p.2.cmp
    let q := cb c.2
    (.mk c.1 [p.1, q.1] [], q.2)
def mV : Nat → PS → Co × PS
  | 0, s => (coZ, s)
  | f + 1, s => kU (mV f) s
def eF (s : PS) : Co × PS := gj (mV FU) s
def dS (s : PS) : Co × PS := dm (mV FU) s
theorem si (s : PS) : s.cmp.2.mu ≤ s.mu := by
  unfold PS.cmp
  repeat' split
  all_goals first | exact bx s | exact eY s 11
theorem lc {g : PS → Co × PS} (hg : ∀ s, (g s).2.mu ≤ s.mu) (s : PS) : (i4 g s).2.mu ≤ s.mu := Nat.le_trans (gW hg _ _ _) (hg s)
theorem lF {g : PS → Co × PS} (hg : ∀ s, (g s).2.mu ≤ s.mu) (s : PS) : (gj g s).2.mu ≤ s.mu := Nat.le_trans (gW (lc hg) _ _ _) (lc hg s)
theorem iy {g : PS → Co × PS} (hg : ∀ s, (g s).2.mu ≤ s.mu) (s : PS) : (dm g s).2.mu ≤ s.mu :=
  Nat.le_trans (eK _) (Nat.le_trans (bi _ _) (Nat.le_trans (lF hg _) (dH _ _)))
theorem ry {g : PS → Co × PS} (hg : ∀ s, (g s).2.mu ≤ s.mu) (s : PS) : (kU g s).2.mu ≤ s.mu := by
  unfold kU
  simp only
  split
  · exact Nat.le_trans (eK _) (Nat.le_trans (hg _) (dH _ _))
  · split
    · exact iy hg s
    · split
      · exact bx s
      · split
        · exact bx s
        · exact Nat.le_trans (cU _) (Nat.le_trans (si _) (cU s))
theorem gg : ∀ (f : Nat) (s : PS), (mV f s).2.mu ≤ s.mu
  | 0, s => Nat.le_refl _
  | f + 1, s => ry (gg f) s
theorem cV (s : PS) : (eF s).2.mu ≤ s.mu := lF (gg FU) s
theorem mz (s : PS) : (dS s).2.mu ≤ s.mu := iy (gg FU) s
end Go.Proofs.YtpkcgdikbjaoaaaDoor
namespace Go.Proofs.YtpkcgdikbjaoaaaDoor
set_option linter.unusedSimpArgs false
set_option linter.unusedVariables false
open Go.RowKit
def PS.place (s : PS) : Ex × Wd × PS :=
  let p := cb s
  let q := (p.2.due [[46]]).word 1
  (p.1, q.1, q.2)
theorem eB (s : PS) : s.place.2.2.mu ≤ s.mu := Nat.le_trans (cX _ _) (Nat.le_trans (bi _ _) (cU s))
def cZ (assn : PS → As × PS) (a b : Wd) (s : PS) : As × PS :=
  let p := assn (s.open' a)
  (p.1, (p.2.due [b]).leave)
def fK (item : PS → As × PS) (s : PS) : As × PS := dE [38] (fun a b => .mk 4 coZ exZ exZ [] 0 [a, b]) item FU (item s).1 (item s).2
def PS.cell (s : PS) (pts : Bool) : As × PS :=
  let p := (s.due [[40]]).place
  let q := (p.2.2.due [[44]]).number
  if pts then
    let v := cb (q.2.due [[44]])
    (.mk 3 coZ p.1 v.1 p.2.1 q.1 [], v.2.due [[41]])
  else (.mk 2 coZ p.1 exZ p.2.1 q.1 [], q.2.due [[41]])
def g6 (assn : PS → As × PS) (s : PS) : As × PS :=
  if s.is [101, 109, 112] then (asZ, s.drop)
  else if s.is [91] then
    let c := dS s
    (.mk 1 c.1 exZ exZ [] 0 [], c.2)
  else if s.is [97, 99, 99] || s.is [112, 116, 115] then s.drop.cell (s.is [112, 116, 115])
  else if s.is [105, 102] then
    let c := eF s.drop
    let x := cZ assn [123] [125] c.2
    let y := cZ assn [123] [125] (x.2.due [[101, 108, 115, 101]])
    (.mk 5 c.1 exZ exZ [] 0 [x.1, y.1], y.2)
  else if s.is [40] then cZ assn [40] [41] s
  else (asZ, s.fail 11)
def j9 : Nat → PS → As × PS
  | 0, s => (asZ, s)
  | f + 1, s => g6 (fK (j9 f)) s
def fA (s : PS) : As × PS := fK (j9 FU) s
theorem jB {g : PS → As × PS} (hg : ∀ s, (g s).2.mu ≤ s.mu) (s : PS) : (fK g s).2.mu ≤ s.mu := Nat.le_trans (gW hg _ _ _) (hg s)
theorem fk {g : PS → As × PS} (hg : ∀ s, (g s).2.mu ≤ s.mu) (a b : Wd) (s : PS) : (cZ g a b s).2.mu ≤ s.mu :=
  Nat.le_trans (eK _) (Nat.le_trans (bi _ _) (Nat.le_trans (hg _) (dH _ _)))
theorem rR (s : PS) (b : Bool) : (s.cell b).2.mu ≤ s.mu := by
  have h1 := Nat.le_trans (eB (s.due [[40]])) (bi _ s)
  have h2 := Nat.le_trans (gd _) (Nat.le_trans (bi [[44]] _) h1)
  unfold PS.cell
  simp only
  split
  · exact Nat.le_trans (bi _ _) (Nat.le_trans (cU _) (Nat.le_trans (bi _ _) h2))
  · exact Nat.le_trans (bi _ _) h2
theorem pf {g : PS → As × PS} (hg : ∀ s, (g s).2.mu ≤ s.mu) (s : PS) : (g6 g s).2.mu ≤ s.mu := by
  unfold g6
  simp only
  split
  · exact bx s
  split
  · exact mz s
  split
  · exact Nat.le_trans (rR _ _) (bx s)
  split
  · exact Nat.le_trans (fk hg _ _ _) (Nat.le_trans (bi _ _) (Nat.le_trans (fk hg _ _ _) (Nat.le_trans (cV _) (bx s))))
  split
  · exact fk hg _ _ _
  · exact eY _ _
theorem gR : ∀ (f : Nat) (s : PS), (j9 f s).2.mu ≤ s.mu
  | 0, s => Nat.le_refl _
  | f + 1, s => pf (jB (gR f)) s
theorem fw (s : PS) : (fA s).2.mu ≤ s.mu := jB (gR FU) s
def PS.call (s : PS) : St × PS :=
  let x := (s.due [[99, 97, 108, 108]]).word 1
  let a := (x.2.due [[40]]).exprs [59]
  let g := (a.2.due [[59]]).exprs [41]
  (.mk 9 [] [] x.1 exZ exZ coZ asZ a.1 g.1 [] [] [], g.2.due [[41]])
def St.named (x : Wd) : St → St
  | .mk k _ f y e v c a rs gs fs b l => .mk k x f y e v c a rs gs fs b l
def PS.set (s : PS) : St × PS :=
  let x := s.word 1
  let s1 := x.2.due [[58, 61]]
  if s1.is [103, 101, 116] then
    let p := s1.drop.place
    (.mk 2 x.1 p.2.1 [] p.1 exZ coZ asZ [] [] [] [] [], p.2.2)
  else if s1.is [110, 101, 119] then
    let n := (s1.drop.due [[40]]).word 1
    let r := eq [44] (fun s => s.word 1) FU [n.1] n.2
    (.mk 4 x.1 [] [] exZ exZ coZ asZ [] [] r.1 [] [], r.2.due [[41]])
  else if s1.is [99, 97, 108, 108] then (s1.call.1.named x.1, s1.call.2)
  else
    let e := cb s1
    (.mk 1 x.1 [] [] e.1 exZ coZ asZ [] [] [] [] [], e.2)
def dy (stmt : PS → St × PS) : Nat → List St → PS → List St × PS
  | 0, out, s => (out, s)
  | f + 1, out, s => if s.err.isNone && !s.is [125] then dy stmt f (out ++ [(stmt s).1]) (stmt s).2 else (out, s)
def eN (stmt : PS → St × PS) (s : PS) : List St × PS :=
  let p := dy stmt FU [] (s.open' [123])
  (p.1, (p.2.due [[125]]).leave)
def fC (block : PS → List St × PS) (s : PS) : St × PS :=
  if s.is [115, 107, 105, 112] then (stZ, s.drop.due [[59]])
  else if s.is [112, 117, 116] then
    let p := s.drop.place
    let v := cb (p.2.2.due [[58, 61]])
    (.mk 3 [] p.2.1 [] p.1 v.1 coZ asZ [] [] [] [] [], v.2.due [[59]])
  else if s.is [102, 114, 101, 101] then
    let p := s.drop.place
    (.mk 5 [] p.2.1 [] p.1 exZ coZ asZ [] [] [] [] [], p.2.2.due [[59]])
  else if s.is [97, 115, 115, 101, 114, 116] then
    let c := eF s.drop
    (.mk 8 [] [] [] exZ exZ c.1 asZ [] [] [] [] [], c.2.due [[59]])
  else if s.is [99, 97, 108, 108] then (s.call.1, s.call.2.due [[59]])
  else if s.kind 1 then (s.set.1, s.set.2.due [[59]])
  else if s.is [105, 102] then
    let c := eF s.drop
    let b := block c.2
    let l := block (b.2.due [[101, 108, 115, 101]])
    (.mk 6 [] [] [] exZ exZ c.1 asZ [] [] [] b.1 l.1, l.2)
  else if s.is [119, 104, 105, 108, 101] then
    let c := eF s.drop
    let a := fA (c.2.due [[105, 110, 118, 97, 114, 105, 97, 110, 116]])
    let b := block a.2
    (.mk 7 [] [] [] exZ exZ c.1 a.1 [] [] [] b.1 [], b.2)
  else (stZ, (s.fail 11).due [[59]])
def jC : Nat → PS → St × PS
  | 0, s => (stZ, s)
  | f + 1, s => fC (eN (jC f)) s
def eX (s : PS) : List St × PS := eN (jC FU) s
def PS.proc (s : PS) : Pc × PS :=
  let x := (s.due [[112, 114, 111, 99]]).word 1
  let p := (x.2.due [[40]]).names [59]
  let g := (p.2.due [[59]]).names [41]
  let a := fA (g.2.due [[41], [114, 101, 113, 117, 105, 114, 101, 115]])
  let b := fA (a.2.due [[101, 110, 115, 117, 114, 101, 115]])
  let c := eX b.2
  (⟨x.1, p.1, g.1, a.1, b.1, c.1⟩, c.2)
def dW : Nat → List Pc → PS → List Pc × PS
  | 0, out, s => (out, s)
  | f + 1, out, s => if s.err.isNone && !s.l.isEmpty then dW f (out ++ [s.proc.1]) s.proc.2 else (out, s)
theorem lD (s : PS) (u : Wd) : (s.names u).2.mu ≤ s.mu := by
  unfold PS.names; split
  · exact Nat.le_refl _
  · exact Nat.le_trans (iT (fun s => cX s 1) _ _ _) (cX s 1)
theorem lR (s : PS) (u : Wd) : (s.exprs u).2.mu ≤ s.mu := by
  unfold PS.exprs; split
  · exact Nat.le_refl _
  · exact Nat.le_trans (iT cU _ _ _) (cU s)
theorem kn {g : PS → St × PS} (hg : ∀ s, (g s).2.mu ≤ s.mu) : ∀ (f : Nat) (out : List St) (s : PS), (dy g f out s).2.mu ≤ s.mu
  | 0, out, s => Nat.le_refl _
  | f + 1, out, s => by
    unfold dy; split
    · exact Nat.le_trans (kn hg f _ _) (hg _)
    · exact Nat.le_refl _
theorem fT {g : PS → St × PS} (hg : ∀ s, (g s).2.mu ≤ s.mu) (s : PS) : (eN g s).2.mu ≤ s.mu :=
  Nat.le_trans (eK _) (Nat.le_trans (bi _ _) (Nat.le_trans (kn hg _ _ _) (dH _ _)))
theorem j1 {s : PS} (h : s.err = none) (w : Wd) (ws : List Wd) : (s.due (w :: ws)).mu < s.mu := by
  have h0 : 0 < s.mu := by unfold PS.mu; rw [h]; simp
  unfold PS.due
  split
  · rename_i hw
    have := bB hw
    have := bi ws s.drop
    omega
  · have : (s.fail 11).mu = 0 := by unfold PS.fail PS.mu; simp [h]
    omega
theorem lh (s : PS) : s.call.2.mu ≤ (s.due [[99, 97, 108, 108]]).mu := by
  unfold PS.call
  simp only
  exact Nat.le_trans (bi _ _) (Nat.le_trans (lR _ _) (Nat.le_trans (bi _ _) (Nat.le_trans (lR _ _) (Nat.le_trans (bi _ _) (cX _ _)))))
theorem oT (s : PS) : s.set.2.mu ≤ (s.word 1).2.mu := by
  have h1 := bi [[58, 61]] (s.word 1).2
  unfold PS.set
  simp only
  split
  · exact Nat.le_trans (eB _) (Nat.le_trans (bx _) h1)
  split
  · exact Nat.le_trans (bi _ _) (Nat.le_trans (iT (fun s => cX s 1) _ _ _) (Nat.le_trans (cX _ _) (Nat.le_trans (bi _ _) (Nat.le_trans (bx _) h1))))
  split
  · exact Nat.le_trans (lh _) (Nat.le_trans (bi _ _) h1)
  · exact Nat.le_trans (cU _) h1
theorem pe {g : PS → List St × PS} (hg : ∀ s, (g s).2.mu ≤ s.mu) {s : PS} (h : s.err = none) : (fC g s).2.mu < s.mu := by
  unfold fC
  simp only
  split
  · rename_i hw; have := bB hw; have := bi [[59]] s.drop; (try simp only); omega
  split
  · rename_i hw; have := bB hw
    have := Nat.le_trans (bi [[59]] _) (Nat.le_trans (cU _) (Nat.le_trans (bi [[58, 61]] _) (eB s.drop))); (try simp only); omega
  split
  · rename_i hw; have := bB hw
    have := Nat.le_trans (bi [[59]] _) (eB s.drop); (try simp only); omega
  split
  · rename_i hw; have := bB hw
    have := Nat.le_trans (bi [[59]] _) (cV s.drop); (try simp only); omega
  split
  · have := j1 h [99, 97, 108, 108] []
    have := Nat.le_trans (bi [[59]] _) (lh s); (try simp only); omega
  split
  · rename_i hk
    have := gw hk
    have := Nat.le_trans (bi [[59]] _) (oT s); (try simp only); omega
  split
  · rename_i hw; have := bB hw
    have := Nat.le_trans (hg _) (Nat.le_trans (bi [[101, 108, 115, 101]] _) (Nat.le_trans (hg _) (cV s.drop))); (try simp only); omega
  split
  · rename_i hw; have := bB hw
    have := Nat.le_trans (hg _) (Nat.le_trans (fw _) (Nat.le_trans (bi [[105, 110, 118, 97, 114, 105, 97, 110, 116]] _) (cV s.drop))); (try simp only); omega
  · have h0 : 0 < s.mu := by unfold PS.mu; rw [h]; simp
    have h1 : (s.fail 11).mu = 0 := by unfold PS.fail PS.mu; simp [h]
    have := bi [[59]] (s.fail 11); (try simp only); omega
theorem pP {g : PS → List St × PS} (hg : ∀ s, (g s).2.mu ≤ s.mu) (s : PS) : (fC g s).2.mu ≤ s.mu := by
  unfold fC
  simp only
  split
  · exact Nat.le_trans (bi _ _) (bx s)
  split
  · exact Nat.le_trans (bi [[59]] _) (Nat.le_trans (cU _) (Nat.le_trans (bi [[58, 61]] _) (Nat.le_trans (eB s.drop) (bx s))))
  split
  · exact Nat.le_trans (bi [[59]] _) (Nat.le_trans (eB s.drop) (bx s))
  split
  · exact Nat.le_trans (bi [[59]] _) (Nat.le_trans (cV s.drop) (bx s))
  split
  · exact Nat.le_trans (bi [[59]] _) (Nat.le_trans (lh s) (bi _ _))
  split
  · exact Nat.le_trans (bi [[59]] _) (Nat.le_trans (oT s) (cX _ _))
  split
  · exact Nat.le_trans (hg _) (Nat.le_trans (bi _ _) (Nat.le_trans (hg _) (Nat.le_trans (cV s.drop) (bx s))))
  split
  · exact Nat.le_trans (hg _) (Nat.le_trans (fw _) (Nat.le_trans (bi _ _) (Nat.le_trans (cV s.drop) (bx s))))
  · exact Nat.le_trans (bi _ _) (eY _ _)
theorem eL : ∀ (f : Nat) (s : PS), (jC f s).2.mu ≤ s.mu
  | 0, s => Nat.le_refl _
  | f + 1, s => pP (fT (eL f)) s
theorem ov (s : PS) : (eX s).2.mu ≤ s.mu := fT (eL FU) s
theorem ru {s : PS} (h : s.err = none) : s.proc.2.mu < s.mu := by
  have h1 := j1 h [112, 114, 111, 99] []
  have h2 : s.proc.2.mu ≤ (s.due [[112, 114, 111, 99]]).mu := by
    unfold PS.proc
    simp only
    exact Nat.le_trans (ov _) (Nat.le_trans (fw _) (Nat.le_trans (bi _ _) (Nat.le_trans (fw _) (Nat.le_trans (bi _ _) (Nat.le_trans (lD _ _) (Nat.le_trans (bi _ _) (Nat.le_trans (lD _ _) (Nat.le_trans (bi _ _) (cX _ _)))))))))
  omega
end Go.Proofs.YtpkcgdikbjaoaaaDoor
namespace Go.Proofs.YtpkcgdikbjaoaaaDoor
set_option linter.unusedSimpArgs false
set_option linter.unusedVariables false
open Go.RowKit
mutual
def stW : St → List AV
  | .mk k x f y e v c a rs gs fs b l => (([inA (k : Int), bs x, bs f, bs y] ++ exA e ++ exA v ++ coA c ++ asA a ++ [.sl (b4 rs) rs.length .none, .sl (b4 gs) gs.length .none, .sl (fs.map bs) fs.length .none, .sl (dz b) b.length .none, .sl (dz l) l.length .none] : List AV)).map (wkA 1)
def dz : List St → List AV
  | [] => []
  | e :: r => stW e ++ dz r
end
def stR (o1 o2 o3 o4 o5 : Own) : St → List AV
  | .mk k x f y e v c a rs gs fs b l => [inA (k : Int), bs x, bs f, bs y] ++ exA e ++ exA v ++ coA c ++ asA a ++ [.sl (b4 rs) rs.length o1, .sl (b4 gs) gs.length o2, .sl (fs.map bs) fs.length o3, .sl (dz b) b.length o4, .sl (dz l) l.length o5]
theorem i8 {cs : List AV} {n : Nat} {o : Own} (h : o = .none ∨ o = .full) : wkA 1 (.sl cs n o) = .sl cs n .none := by
  rcases h with rfl | rfl <;> rfl
theorem fx {o1 o2 o3 o4 o5 : Own} (h1 : o1 = .none ∨ o1 = .full) (h2 : o2 = .none ∨ o2 = .full) (h3 : o3 = .none ∨ o3 = .full) (h4 : o4 = .none ∨ o4 = .full) (h5 : o5 = .none ∨ o5 = .full) (s : St) :
    wkA 2 (.agg (stR o1 o2 o3 o4 o5 s)) = .agg (stW s) := by
  obtain ⟨k, x, f, y, e, v, c, a, rs, gs, fs, b, l⟩ := s
  show AV.agg ((stR o1 o2 o3 o4 o5 _).map (wkA 1)) = _
  simp only [stR, stW, List.map_append, List.map_cons, List.map_nil, i8 h1, i8 h2, i8 h3, i8 h4, i8 h5]
  rfl
def pcW (p : Pc) : List AV := [bs p.name, .sl (p.params.map bs) p.params.length .none, .sl (p.ghosts.map bs) p.ghosts.length .none] ++ asA p.pre ++ asA p.post ++ [.sl (dz p.body) p.body.length .none]
def d9 : List Pc → List AV
  | [] => []
  | e :: r => pcW e ++ d9 r
theorem nY : ∀ e, (stW e).length = 35
  | .mk k x f y e v c a rs gs fs b l => by simp [stW, gI, gE, gb]
theorem nq (p : Pc) : (pcW p).length = 34 := by simp [pcW, gb]
theorem jA : ∀ l : List St, (dz l).length = l.length * 35
  | [] => rfl
  | e :: r => by simp only [dz, List.length_append, List.length_cons, nY, jA r]; omega
theorem iY : ∀ l : List Pc, (d9 l).length = l.length * 34
  | [] => rfl
  | e :: r => by simp only [d9, List.length_append, List.length_cons, nq, iY r]; omega
theorem mg : ∀ a b : List St, dz (a ++ b) = dz a ++ dz b
  | [], b => rfl
  | e :: r, b => by simp only [List.cons_append, dz, mg r b, List.append_assoc]
theorem mv : ∀ a b : List Pc, d9 (a ++ b) = d9 a ++ d9 b
  | [], b => rfl
  | e :: r, b => by simp only [List.cons_append, d9, mv r b, List.append_assoc]
end Go.Proofs.YtpkcgdikbjaoaaaDoor

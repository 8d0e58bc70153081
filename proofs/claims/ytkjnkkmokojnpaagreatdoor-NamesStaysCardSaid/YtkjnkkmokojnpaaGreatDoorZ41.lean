/- The words of a program's text. No program is in sight. How long the text of a light program can be. No program is in sight. Texts as words with blanks: how they are put together. No program is in sight. -/
import Derived.Test.YtkjnkkmokojnpaaGreatDoorZ8
namespace Go.Proofs.YtkjnkkmokojnpaaGreatDoor
set_option linter.unusedSimpArgs false
set_option linter.unusedVariables false
open Go.RowKit
def bb : List Wd → Wd
 | [] => []
 | a :: r => if r.isEmpty then a else a ++ 32 :: bb r
theorem xa (a : Wd) : bb [a] = a := rfl
theorem km (a : Wd) {r : List Wd} (h : r ≠ []) : bb (a :: r) = a ++ 32 :: bb r := by
 rw [bb,if_neg (by simpa using h)]
theorem oh : ∀ {a b : List Wd},a ≠ [] → b ≠ [] → bb (a ++ b) = bb a ++ 32 :: bb b
 | [],_,h,_ => absurd rfl h
 | [x],b,_,h => by rw [List.singleton_append,km x h,xa]
 | x :: y :: r,b,_,h => by
  rw [List.cons_append,km x (by simp),km x (by simp),oh (by simp) h,List.append_assoc,List.cons_append]
def fV (l : List Wd) : Wd := l.flatMap fun x => x ++ [32]
theorem dm (a b : List Wd) : fV (a ++ b) = fV a ++ fV b := by simp [fV]
theorem fp : ∀ {l : List Wd},l ≠ [] → fV l = bb l ++ [32]
 | [],h => absurd rfl h
 | [x],_ => by simp [fV,bb]
 | x :: y :: r,_ => by
  rw [km x (by simp),List.append_assoc,List.cons_append,← fp (l := y :: r) (by simp)]
  simp [fV]
def qN : Nat → Nat → Wd
 | 0,_ => []
 | f + 1,n => if n < 10 then [UInt8.ofNat (48 + n)] else qN f (n / 10) ++ [UInt8.ofNat (48 + n % 10)]
def dec (n : Nat) : Wd := qN (n + 1) n
theorem rB : ∀ (f g n : Nat),n < f → n < g → qN f n = qN g n
 | 0,_,_,h,_ => absurd h (by omega)
 | _,0,_,_,h => absurd h (by omega)
 | f + 1,g + 1,n,h,k => by
  unfold qN
  split
  ·rfl
  ·rw [rB f g (n / 10) (by omega) (by omega)]
theorem CY {n : Nat} (h : n < 10) : dec n = [UInt8.ofNat (48 + n)] := by unfold dec qN; rw [if_pos h]
theorem CX {n : Nat} (h : 10 ≤ n) : dec n = dec (n / 10) ++ [UInt8.ofNat (48 + n % 10)] := by
 unfold dec
 rw [qN,if_neg (by omega),rB n (n / 10 + 1) (n / 10) (by omega) (by omega)]
def jr (n : Int) : List Wd := if n < 0 then [[45],dec (-n).toNat] else [dec n.toNat]
theorem uB (n : Int) : jr n ≠ [] := by unfold jr; split <;> simp
def inT (p : Int × List Wd) : List Wd := if p.1 = 2 ∨ p.1 = 3 then [[40]] ++ p.2 ++ [[41]] else p.2
def PE.kind : PE → Int
 | .mk k _ _ _ => k
mutual
def tkE : PE → List Wd
 | .mk k n x ks => if k = 0 then jr n else if k = 1 then [x] else if k = 4 then jr n ++ [[42]] ++ inT ((mw ks).getD 0 (0,[]))
  else ((mw ks).getD 0 (0,[])).2 ++ [if k = 3 then [45] else [43]] ++ inT ((mw ks).getD 1 (0,[]))
def mw : List PE → List (Int × List Wd)
 | [] => []
 | .mk k n x ks :: r => (k,tkE (.mk k n x ks)) :: mw r
end
theorem nJ : ∀ l : List PE,mw l = l.map fun e => (e.kind,tkE e)
 | [] => rfl
 | .mk k n x ks :: r => by rw [mw,nJ r]; rfl
def PC.kind : PC → Int
 | .mk k _ _ => k
def ie (b : Bool) (l : List Wd) : List Wd := if b then [[91]] ++ l ++ [[93]] else l
def yb (k : Int) : Wd := if k = 3 then [33,61] else if k = 4 then [60] else if k = 5 then [60,61] else [61,61]
mutual
def tkC : PC → List Wd
 | .mk k e ks =>
  let a := (jP ks).getD 0 (0,[])
  let b := (jP ks).getD 1 (0,[])
  if k = 0 then [[116,114,117,101]] else if k = 1 then [[102,97,108,115,101]]
  else if k = 6 then [[33]] ++ ie (decide (a.1 = 7) || decide (a.1 = 8)) a.2
  else if k = 7 then ie (decide (a.1 = 8)) a.2 ++ [[38,38]] ++ ie (decide (b.1 = 7) || decide (b.1 = 8)) b.2
  else if k = 8 then a.2 ++ [[124,124]] ++ ie (decide (b.1 = 8)) b.2
  else ((mw e).getD 0 (0,[])).2 ++ [yb k] ++ ((mw e).getD 1 (0,[])).2
def jP : List PC → List (Int × List Wd)
 | [] => []
 | .mk k e ks :: r => (k,tkC (.mk k e ks)) :: jP r
end
theorem nI : ∀ l : List PC,jP l = l.map fun e => (e.kind,tkC e)
 | [] => rfl
 | .mk k n x :: r => by rw [jP,nI r]; rfl
def PA.kind : PA → Int
 | .mk k _ _ _ _ _ _ => k
mutual
def tkA : PA → List Wd
 | .mk k c e v f n ks =>
  let a := (qE ks).getD 0 (0,[])
  let b := (qE ks).getD 1 (0,[])
  if k = 0 then [[101,109,112]]
  else if k = 1 then [[91]] ++ tkC c ++ [[93]]
  else if k = 2 then [[97,99,99],[40]] ++ tkE e ++ [[46],f,[44]] ++ jr n ++ [[41]]
  else if k = 3 then [[112,116,115],[40]] ++ tkE e ++ [[46],f,[44]] ++ jr n ++ [[44]] ++ tkE v ++ [[41]]
  else if k = 4 then a.2 ++ [[38]] ++ (if b.1 = 4 then [[40]] ++ b.2 ++ [[41]] else b.2)
  else [[105,102]] ++ tkC c ++ [[123]] ++ a.2 ++ [[125],[101,108,115,101],[123]] ++ b.2 ++ [[125]]
def qE : List PA → List (Int × List Wd)
 | [] => []
 | .mk k c e v f n ks :: r => (k,tkA (.mk k c e v f n ks)) :: qE r
end
theorem qF : ∀ l : List PA,qE l = l.map fun e => (e.kind,tkA e)
 | [] => rfl
 | .mk k c e v f n ks :: r => by rw [qE,qF r]; rfl
def js : List (List Wd) → List Wd
 | [] => []
 | a :: r => if r.isEmpty then a else a ++ [[44]] ++ js r
def jM (e : PE) (f : Wd) : List Wd := tkE e ++ [[46],f]
mutual
def tkS : PS' → List Wd
 | .mk k x f y e v c a rs gs fs b l =>
  let nm := if x.isEmpty then [] else [x,[58,61]]
  if k = 0 then [[115,107,105,112],[59]]
  else if k = 1 then nm ++ tkE e ++ [[59]]
  else if k = 2 then nm ++ [[103,101,116]] ++ jM e f ++ [[59]]
  else if k = 3 then [[112,117,116]] ++ jM e f ++ [[58,61]] ++ tkE v ++ [[59]]
  else if k = 4 then nm ++ [[110,101,119],[40]] ++ js (fs.map fun x => [x]) ++ [[41],[59]]
  else if k = 5 then [[102,114,101,101]] ++ jM e f ++ [[59]]
  else if k = 6 then [[105,102]] ++ tkC c ++ [[123]] ++ gq b ++ [[125],[101,108,115,101],[123]] ++ gq l ++ [[125]]
  else if k = 7 then [[119,104,105,108,101]] ++ tkC c ++ [[105,110,118,97,114,105,97,110,116]] ++ tkA a ++ [[123]] ++ gq b ++ [[125]]
  else if k = 8 then [[97,115,115,101,114,116]] ++ tkC c ++ [[59]]
  else nm ++ [[99,97,108,108],y,[40]] ++ js (rs.map tkE) ++ [[59]] ++ js (gs.map tkE) ++ [[41],[59]]
def gq : List PS' → List Wd
 | [] => []
 | e :: r => tkS e ++ gq r
end
def tkB (l : List PS') : List Wd := [[123]] ++ gq l ++ [[125]]
def tkP (p : PP) : List Wd := [[112,114,111,99],p.name,[40]] ++ js (p.params.map fun x => [x]) ++ [[59]] ++ js (p.ghosts.map fun x => [x]) ++ [[41],[114,101,113,117,105,114,101,115]] ++ tkA p.pre ++ [[101,110,115,117,114,101,115]] ++ tkA p.post ++ tkB p.body
def gp (l : List PP) : List Wd := l.flatMap tkP
def ll (l : List PP) : Wd × Nat := if eL l = 0 then (if (bb (gp l)).length ≤ 65536 then (bb (gp l),0) else ([],2)) else ([],eL l)
end Go.Proofs.YtkjnkkmokojnpaaGreatDoor
namespace Go.Proofs.YtkjnkkmokojnpaaGreatDoor
set_option linter.unusedSimpArgs false
set_option linter.unusedVariables false
open Go.RowKit
mutual
def nE : PE → Nat
 | .mk _ _ _ ks => 1 + nEs ks
def nEs : List PE → Nat
 | [] => 0
 | e :: r => nE e + nEs r
end
mutual
def nC : PC → Nat
 | .mk _ e ks => 1 + nEs e + nCs ks
def nCs : List PC → Nat
 | [] => 0
 | e :: r => nC e + nCs r
end
mutual
def nA : PA → Nat
 | .mk _ c e v _ _ ks => 1 + nC c + nE e + nE v + nAs ks
def nAs : List PA → Nat
 | [] => 0
 | e :: r => nA e + nAs r
end
mutual
def nS : PS' → Nat
 | .mk _ _ _ _ e v c a rs gs _ b l => 1 + nC c + nE e + nE v + nEs rs + nEs gs + nA a + nSs b + nSs l
def nSs : List PS' → Nat
 | [] => 0
 | e :: r => nS e + nSs r
end
theorem fJ {a : Int} {f : Int → Int} (h : 0 ≤ dK a f) : 0 ≤ a ∧ dK a f = f a := by
 unfold dK at h ⊢
 by_cases ha : 0 ≤ a
 ·rw [if_pos ha]; exact ⟨ha,rfl⟩
 ·rw [if_neg ha] at h; exact absurd h ha
theorem mEl (d : Nat) (ih : ∀ (l : List PE) (left : Int),-1 ≤ left → 0 ≤ szE d l left → (nEs l : Int) ≤ left - szE d l left) : ∀ (l : List PE) (left : Int),-1 ≤ left → 0 ≤ ls (szE d) l left → (nEs l : Int) ≤ left - ls (szE d) l left
 | [],left,_,_ => by simp [ls,nEs]
 | .mk k n x ks :: r,left,hl,h => by
  unfold ls at h ⊢
  by_cases h1 : left < 0
  ·rw [if_pos h1] at h; omega
  rw [if_neg h1] at h ⊢
  by_cases h2 : 200 < x.length
  ·rw [if_pos h2] at h; omega
  rw [if_neg h2] at h ⊢
  have d1 := iK d ks (left - 1) (by omega)
  have d2 := vX (iK d) r (szE d ks (left - 1)) d1.1
  have i1 := ih ks (left - 1) (by omega) (by omega)
  have i2 := mEl d ih r _ d1.1 h
  have hv : nEs (.mk k n x ks :: r) = 1 + nEs ks + nEs r := by rw [nEs,nE]
  omega
theorem mE : ∀ (d : Nat) (l : List PE) (left : Int),-1 ≤ left → 0 ≤ szE d l left → (nEs l : Int) ≤ left - szE d l left
 | 0 => fun l left _ h => absurd h (by simp [szE])
 | d + 1 => mEl d (mE d)
theorem mCl (d : Nat) (ih : ∀ (l : List PC) (left : Int),-1 ≤ left → 0 ≤ szC d l left → (nCs l : Int) ≤ left - szC d l left) : ∀ (l : List PC) (left : Int),-1 ≤ left → 0 ≤ lq d (szC d) l left → (nCs l : Int) ≤ left - lq d (szC d) l left
 | [],left,_,_ => by simp [lq,nCs]
 | .mk k e ks :: r,left,hl,h => by
  unfold lq at h ⊢
  by_cases h1 : left < 0
  ·rw [if_pos h1] at h; omega
  rw [if_neg h1] at h ⊢
  have d1 := iK d e (left - 1) (by omega)
  by_cases h2 : 0 ≤ szE d e (left - 1)
  ·rw [if_pos h2] at h ⊢
   have d2 := lY d ks _ d1.1
   have d3 := pO d (lY d) r _ d2.1
   have i0 := mE d e (left - 1) (by omega) h2
   have i1 := ih ks _ d1.1 (by omega)
   have i2 := mCl d ih r _ d2.1 h
   have hv : nCs (.mk k e ks :: r) = 1 + nEs e + nCs ks + nCs r := by rw [nCs,nC]
   omega
  ·rw [if_neg h2] at h
   have d3 := pO d (lY d) r _ d1.1
   omega
theorem mC : ∀ (d : Nat) (l : List PC) (left : Int),-1 ≤ left → 0 ≤ szC d l left → (nCs l : Int) ≤ left - szC d l left
 | 0 => fun l left _ h => absurd h (by simp [szC])
 | d + 1 => mCl d (mC d)
theorem mAl (d : Nat) (ih : ∀ (l : List PA) (left : Int),-1 ≤ left → 0 ≤ szA d l left → (nAs l : Int) ≤ left - szA d l left) : ∀ (l : List PA) (left : Int),-1 ≤ left → 0 ≤ lm d (szA d) l left → (nAs l : Int) ≤ left - lm d (szA d) l left
 | [],left,_,_ => by simp [lm,nAs]
 | .mk k c e v x n ks :: r,left,hl,h => by
  unfold lm at h ⊢
  by_cases h1 : left < 0
  ·rw [if_pos h1] at h; omega
  rw [if_neg h1] at h ⊢
  by_cases h2 : 200 < x.length
  ·rw [if_pos h2] at h; omega
  rw [if_neg h2] at h ⊢
  have d1 := lY d [c] (left - 1) (by omega)
  have d2 := dT d1 (iK d [e,v])
  have d3 := dT d2 (nY d ks)
  have d4 := vW d (nY d) r _ d3.1
  obtain ⟨p2,e2⟩ := fJ (a := dK (szC d [c] (left - 1)) (szE d [e,v])) (f := szA d ks) (by omega)
  obtain ⟨p1,e1⟩ := fJ p2
  have i0 := mC d [c] (left - 1) (by omega) p1
  have i1 := mE d [e,v] _ d1.1 (by omega)
  have i2 := ih ks _ d2.1 (by omega)
  have i3 := mAl d ih r _ d3.1 h
  have v1 : nCs [c] = nC c := by simp [nCs]
  have v2 : nEs [e,v] = nE e + nE v := by simp [nEs]
  have hv : nAs (.mk k c e v x n ks :: r) = 1 + nC c + nE e + nE v + nAs ks + nAs r := by rw [nAs,nA]
  omega
theorem mA : ∀ (d : Nat) (l : List PA) (left : Int),-1 ≤ left → 0 ≤ szA d l left → (nAs l : Int) ≤ left - szA d l left
 | 0 => fun l left _ h => absurd h (by simp [szA])
 | d + 1 => mAl d (mA d)
mutual
def lD : PS' → Bool
 | .mk _ _ _ _ _ _ _ _ _ _ fs b l => decide (fs.length ≤ 50) && (gt b && gt l)
def gt : List PS' → Bool
 | [] => true
 | e :: r => lD e && gt r
end
def SN (l : List PS') (n : Int) : Prop := (nSs l : Int) ≤ n ∧ gt l = true
theorem mSl (d : Nat) (ih : ∀ (l : List PS') (left : Int),-1 ≤ left → 0 ≤ szS d l left → SN l (left - szS d l left)) : ∀ (l : List PS') (left : Int),-1 ≤ left → 0 ≤ kM d (szS d) l left → SN l (left - kM d (szS d) l left)
 | [],left,_,_ => ⟨by simp [kM,nSs],rfl⟩
 | .mk k x y z e v c a rs gs fs b l :: r,left,hl,h => by
  unfold kM at h ⊢
  by_cases h1 : left < 0
  ·rw [if_pos h1] at h; omega
  rw [if_neg h1] at h ⊢
  by_cases h2 : 50 < fs.length ∨ 200 < x.length ∨ 200 < y.length ∨ 200 < z.length
  ·rw [if_pos h2] at h; omega
  rw [if_neg h2] at h ⊢
  have d1 := lY d [c] (left - 1) (by omega)
  have d2 := dT ⟨d1.1,Int.le_refl _⟩ (iK d [e,v])
  have d3 := dT ⟨d2.1,Int.le_refl _⟩ (iK d rs)
  have d4 := dT ⟨d3.1,Int.le_refl _⟩ (iK d gs)
  have d5 := dT ⟨d4.1,Int.le_refl _⟩ (nY d [a])
  have d6 := dT ⟨d5.1,Int.le_refl _⟩ (oM d b)
  have d7 := dT ⟨d6.1,Int.le_refl _⟩ (oM d l)
  have d8 := vY d (oM d) r _ d7.1
  have i3 := mSl d ih r _ d7.1 h
  generalize hz1 : szC d [c] (left - 1) = z1 at *
  generalize hz2 : dK z1 (szE d [e,v]) = z2 at *
  generalize hz3 : dK z2 (szE d rs) = z3 at *
  generalize hz4 : dK z3 (szE d gs) = z4 at *
  generalize hz5 : dK z4 (szA d [a]) = z5 at *
  generalize hz6 : dK z5 (szS d b) = z6 at *
  generalize hz7 : dK z6 (szS d l) = z7 at *
  obtain ⟨n6,e7⟩ := fJ (a := z6) (f := szS d l) (by rw [hz7]; omega)
  obtain ⟨n5,e6⟩ := fJ (a := z5) (f := szS d b) (by rw [hz6]; omega)
  obtain ⟨n4,e5⟩ := fJ (a := z4) (f := szA d [a]) (by rw [hz5]; omega)
  obtain ⟨n3,e4⟩ := fJ (a := z3) (f := szE d gs) (by rw [hz4]; omega)
  obtain ⟨n2,e3⟩ := fJ (a := z2) (f := szE d rs) (by rw [hz3]; omega)
  obtain ⟨n1,e2⟩ := fJ (a := z1) (f := szE d [e,v]) (by rw [hz2]; omega)
  rw [hz7] at e7
  rw [hz6] at e6
  rw [hz5] at e5
  rw [hz4] at e4
  rw [hz3] at e3
  rw [hz2] at e2
  have i0 := mC d [c] (left - 1) (by omega) (by rw [hz1]; omega)
  rw [hz1] at i0
  have i1 := mE d [e,v] z1 (by omega) (by rw [← e2]; omega)
  have i2 := mE d rs z2 (by omega) (by rw [← e3]; omega)
  have i4 := mE d gs z3 (by omega) (by rw [← e4]; omega)
  have i7 := mA d [a] z4 (by omega) (by rw [← e5]; omega)
  have i5 := ih b z5 (by omega) (by rw [← e6]; omega)
  have i6 := ih l z6 (by omega) (by rw [← e7]; omega)
  rw [← e2] at i1
  rw [← e3] at i2
  rw [← e4] at i4
  rw [← e5] at i7
  rw [← e6] at i5
  rw [← e7] at i6
  have v1 : nCs [c] = nC c := by simp [nCs]
  have v2 : nEs [e,v] = nE e + nE v := by simp [nEs]
  have v3 : nAs [a] = nA a := by simp [nAs]
  have hv : nSs (.mk k x y z e v c a rs gs fs b l :: r) = 1 + nC c + nE e + nE v + nEs rs + nEs gs + nA a + nSs b + nSs l + nSs r := by rw [nSs,nS]
  refine ⟨?_,?_⟩
  ·have := i3.1; have := i5.1; have := i6.1
   omega
  ·rw [gt,lD,i3.2,i5.2,i6.2]
   simp; omega
theorem mS : ∀ (d : Nat) (l : List PS') (left : Int),-1 ≤ left → 0 ≤ szS d l left → SN l (left - szS d l left)
 | 0 => fun l left _ h => absurd h (by simp [szS])
 | d + 1 => mSl d (mS d)
def tl : List Wd → Nat
 | [] => 0
 | a :: r => a.length + 1 + tl r
theorem ep : ∀ a b : List Wd,tl (a ++ b) = tl a + tl b
 | [],b => by simp [tl]
 | x :: r,b => by rw [List.cons_append,tl,tl,ep r b]; omega
theorem fY : ∀ l : List Wd,(bb l).length ≤ tl l
 | [] => Nat.le_refl _
 | a :: r => by
  rw [bb,tl]
  split
  ·omega
  ·have := fY r
   rw [List.length_append,List.length_cons]; omega
theorem tP : ∀ l : List Wd,(fV l).length = tl l
 | [] => rfl
 | a :: r => by
  have := tP r
  unfold fV at *
  rw [List.flatMap_cons,List.length_append,this,tl]; simp
theorem tT : ∀ (f n k : Nat),n < 10 ^ (k + 1) → (qN f n).length ≤ k + 1
 | 0,n,k,_ => by simp [qN]
 | f + 1,n,k,h => by
  unfold qN
  split
  ·simp
  ·rename_i hn
   obtain _ | k := k
   ·simp at h; omega
   ·have := tT f (n / 10) k (by rw [Nat.div_lt_iff_lt_mul (by decide),← Nat.pow_succ]; exact h)
    rw [List.length_append,List.length_singleton]; omega
theorem oW {n : Nat} (h : n ≤ 1073741824) : (dec n).length ≤ 10 := tT _ n 9 (by omega)
theorem ke {n : Int} (h : iC n = true) : tl (jr n) ≤ 13 := by
 unfold iC at h
 simp at h
 unfold jr
 split
 ·have := oW (n := (-n).toNat) (by omega)
  simp only [tl,List.length_cons,List.length_nil]; omega
 ·have := oW (n := n.toNat) (by omega)
  simp only [tl]; omega
theorem eU {x : Wd} (h : dM x = true) : x.length ≤ 32 := by
 unfold dM at h
 simp at h
 exact h.1
theorem sF (p : Int × List Wd) : tl (inT p) ≤ tl p.2 + 4 := by
 unfold inT; split
 ·simp only [ep,tl,List.length_cons,List.length_nil]; omega
 ·omega
theorem kQ (b : Bool) (l : List Wd) : tl (ie b l) ≤ tl l + 4 := by
 unfold ie; split
 ·simp only [ep,tl,List.length_cons,List.length_nil]; omega
 ·omega
def tlp : List (Int × List Wd) → Nat
 | [] => 0
 | a :: r => tl a.2 + tlp r
theorem pi : ∀ (l : List (Int × List Wd)),tl (l.getD 0 (0,[])).2 + tl (l.getD 1 (0,[])).2 ≤ tlp l
 | [] => by simp [tl]
 | [a] => by simp [tl,tlp]
 | a :: b :: r => by simp only [tlp,List.getD_cons_zero,List.getD_cons_succ]; omega
mutual
theorem kE : ∀ e,seE e = true → tl (tkE e) ≤ 50 * nE e
 | .mk k n x ks,h => by
  rw [seE,Bool.and_eq_true] at h
  obtain ⟨h1,h2⟩ := h
  have ih := tq ks h2
  have g := pi (mw ks)
  have q0 := sF ((mw ks).getD 0 (0,[]))
  have q1 := sF ((mw ks).getD 1 (0,[]))
  rw [tkE,nE]
  unfold sy at h1
  by_cases k0 : k = 0
  ·rw [if_pos k0] at h1 ⊢
   simp only [Bool.and_eq_true] at h1
   have := ke h1.1
   omega
  rw [if_neg k0] at h1 ⊢
  by_cases k1 : k = 1
  ·rw [if_pos k1] at h1 ⊢
   simp only [Bool.and_eq_true] at h1
   have := eU h1.1
   simp only [tl]; omega
  rw [if_neg k1] at h1 ⊢
  by_cases k4 : k = 4
  ·have k23 : ¬ (k = 2 ∨ k = 3) := by omega
   rw [if_neg k23,if_pos k4] at h1
   rw [if_pos k4]
   simp only [Bool.and_eq_true] at h1
   have := ke h1.1
   simp only [ep,tl,List.length_cons,List.length_nil]; omega
  ·rw [if_neg k4]
   have : (if k = 3 then [45] else [43] : Wd).length = 1 := by split <;> rfl
   simp only [ep,tl,this]; omega
theorem tq : ∀ l,hI l = true → tlp (mw l) ≤ 50 * nEs l
 | [],_ => by simp [mw,tlp]
 | .mk k n x ks :: r,h => by
  rw [hI,Bool.and_eq_true] at h
  have h1 := kE (.mk k n x ks) h.1
  have h2 := tq r h.2
  rw [mw,tlp,nEs]; dsimp only; omega
end
theorem yc (k : Int) : (yb k).length ≤ 2 := by unfold yb; split <;> (try split) <;> (try split) <;> simp
mutual
theorem mv : ∀ e,seC e = true → tl (tkC e) ≤ 50 * nC e
 | .mk k e ks,h => by
  rw [seC] at h
  simp only [Bool.and_eq_true] at h
  obtain ⟨h1,h2,h3⟩ := h
  have i1 := tq e h2
  have i2 := wF ks h3
  have g := pi (mw e)
  have g2 := pi (jP ks)
  rw [tkC,nC]
  have c := yc k
  have b0 := kQ (decide (((jP ks).getD 0 (0,[])).1 = 7) || decide (((jP ks).getD 0 (0,[])).1 = 8)) ((jP ks).getD 0 (0,[])).2
  have b1 := kQ (decide (((jP ks).getD 0 (0,[])).1 = 8)) ((jP ks).getD 0 (0,[])).2
  have b2 := kQ (decide (((jP ks).getD 1 (0,[])).1 = 7) || decide (((jP ks).getD 1 (0,[])).1 = 8)) ((jP ks).getD 1 (0,[])).2
  have b3 := kQ (decide (((jP ks).getD 1 (0,[])).1 = 8)) ((jP ks).getD 1 (0,[])).2
  generalize (jP ks).getD 0 (0,[]) = A at *
  generalize (jP ks).getD 1 (0,[]) = B at *
  repeat' split
  all_goals (simp only [ep,tl,List.length_cons,List.length_nil]; omega)
theorem wF : ∀ l,mr l = true → tlp (jP l) ≤ 50 * nCs l
 | [],_ => by simp [jP,tlp]
 | .mk k n x :: r,h => by
  rw [mr,Bool.and_eq_true] at h
  have h1 := mv (.mk k n x) h.1
  have h2 := wF r h.2
  rw [jP,tlp,nCs]; dsimp only; omega
end
theorem tE0 {e : PE} (h : dx e = false) : e = .mk 0 0 [] [] := by
 obtain ⟨k,n,x,ks⟩ := e
 simp [dx] at h
 obtain ⟨rfl,rfl,rfl,rfl⟩ := h
 rfl
theorem lT {n : Int} (h1 : 0 ≤ n) (h2 : n ≤ 1073741824) : iC n = true := by unfold iC; simp; omega
mutual
theorem qD : ∀ e,seA e = true → tl (tkA e) ≤ 80 * nA e
 | .mk k c e v f n ks,h => by
  rw [seA] at h
  simp only [Bool.and_eq_true] at h
  obtain ⟨h1,h3⟩ := h
  have i2 := wE ks h3
  have g2 := pi (qE ks)
  rw [tkA,nA]
  generalize (qE ks).getD 0 (0,[]) = A at *
  generalize (qE ks).getD 1 (0,[]) = B at *
  unfold wU oo at h1
  by_cases k0 : k = 0
  ·rw [if_pos k0]; simp only [ep,tl,List.length_cons,List.length_nil]; omega
  rw [if_neg k0] at h1 ⊢
  by_cases k1 : k = 1
  ·rw [if_pos k1] at h1 ⊢
   simp only [Bool.and_eq_true] at h1
   have := mv c h1.2.1
   simp only [ep,tl,List.length_cons,List.length_nil]; omega
  rw [if_neg k1] at h1 ⊢
  by_cases k2 : k = 2
  ·rw [if_pos k2] at h1 ⊢
   simp only [Bool.and_eq_true,decide_eq_true_eq] at h1
   have := kE e h1.2.2.1.1
   have := eU h1.2.2.1.2.1
   have := ke (lT h1.2.2.1.2.2.1 h1.2.2.1.2.2.2)
   simp only [ep,tl,List.length_cons,List.length_nil]; omega
  rw [if_neg k2] at h1 ⊢
  by_cases k3 : k = 3
  ·rw [if_pos k3] at h1 ⊢
   simp only [Bool.and_eq_true,decide_eq_true_eq] at h1
   have := kE e h1.2.2.1.1
   have := eU h1.2.2.1.2.1
   have := ke (lT h1.2.2.1.2.2.1 h1.2.2.1.2.2.2)
   have := kE v h1.2.2.2
   simp only [ep,tl,List.length_cons,List.length_nil]; omega
  rw [if_neg k3] at h1 ⊢
  by_cases k4 : k = 4
  ·rw [if_pos k4] at h1 ⊢
   split
   ·simp only [ep,tl,List.length_cons,List.length_nil]; omega
   ·simp only [ep,tl,List.length_cons,List.length_nil]; omega
  rw [if_neg k4] at h1 ⊢
  by_cases k5 : k = 5
  ·rw [if_pos k5] at h1
   simp only [Bool.and_eq_true,decide_eq_true_eq] at h1
   have := mv c h1.2.1
   simp only [ep,tl,List.length_cons,List.length_nil]; omega
  ·rw [if_neg k5] at h1; cases h1
theorem wE : ∀ l,mq l = true → tlp (qE l) ≤ 80 * nAs l
 | [],_ => by simp [qE,tlp]
 | .mk k c e v f n ks :: r,h => by
  rw [mq,Bool.and_eq_true] at h
  have h1 := qD (.mk k c e v f n ks) h.1
  have h2 := wE r h.2
  rw [qE,tlp,nAs]; dsimp only; omega
end
def iT : List (List Wd) → Nat
 | [] => 0
 | a :: r => tl a + 2 + iT r
theorem jj : ∀ l : List (List Wd),tl (js l) ≤ iT l
 | [] => Nat.le_refl _
 | a :: r => by
  have := jj r
  rw [js,iT]
  split
  ·omega
  ·simp only [ep,tl,List.length_cons,List.length_nil]; omega
theorem qI : ∀ l : List PE,hI l = true → iT (l.map tkE) ≤ 60 * nEs l
 | [],_ => by simp [iT]
 | e :: r,h => by
  rw [hI,Bool.and_eq_true] at h
  have h1 := kE e h.1
  have h2 := qI r h.2
  have h3 : 1 ≤ nE e := by obtain ⟨k,n,x,ks⟩ := e; rw [nE]; omega
  rw [List.map_cons,iT,nEs]; omega
theorem my : ∀ l : List Wd,fR l = true → iT (l.map fun x => [x]) ≤ 40 * l.length
 | [],_ => by simp [iT]
 | x :: r,h => by
  unfold fR at h
  rw [List.all_cons,Bool.and_eq_true] at h
  have h1 := eU h.1
  have h2 := my r h.2
  rw [List.map_cons,iT,List.length_cons]; simp only [tl]; omega
theorem mm {e : PE} {f : Wd} (he : seE e = true) (hf : dM f = true) : tl (jM e f) ≤ 50 * nE e + 40 := by
 have := kE e he
 have := eU hf
 unfold jM
 simp only [ep,tl,List.length_cons,List.length_nil]; omega
theorem pe {x : Wd} (h : dM x = true) : tl (if x.isEmpty then [] else [x,[58,61]]) ≤ 40 := by
 have := eU h
 split
 ·exact Nat.zero_le _
 ·simp only [tl,List.length_cons,List.length_nil]; omega
theorem yY {x : Wd} (h : (x.isEmpty || dM x) = true) : tl (if x.isEmpty then [] else [x,[58,61]]) ≤ 40 := by
 by_cases hx : x.isEmpty = true
 ·rw [if_pos hx]; exact Nat.zero_le _
 ·exact pe (by simpa [hx] using h)
mutual
theorem zF : ∀ e,seS e = true → lD e = true → tl (tkS e) ≤ 3000 * nS e
 | .mk k x f y e v c a rs gs fs b l,h,hf => by
  rw [lD] at hf
  simp only [Bool.and_eq_true,decide_eq_true_eq] at hf
  obtain ⟨hf1,hf2,hf3⟩ := hf
  rw [seS] at h
  rw [tkS,nS]
  by_cases k0 : k = 0
  ·rw [if_pos k0]; simp only [ep,tl,List.length_cons,List.length_nil]; omega
  rw [if_neg k0] at h ⊢
  by_cases k1 : k = 1
  ·rw [if_pos k1] at h ⊢
   simp only [Bool.and_eq_true] at h
   have := pe h.1
   have := kE e h.2.2.2.1
   simp only [ep,tl,List.length_cons,List.length_nil]; omega
  rw [if_neg k1] at h ⊢
  by_cases k2 : k = 2
  ·rw [if_pos k2] at h ⊢
   simp only [Bool.and_eq_true] at h
   have := pe h.1
   have := mm h.2.2.2.1 h.2.1
   simp only [ep,tl,List.length_cons,List.length_nil]; omega
  rw [if_neg k2] at h ⊢
  by_cases k3 : k = 3
  ·rw [if_pos k3] at h ⊢
   simp only [Bool.and_eq_true] at h
   have := mm h.2.2.2.1 h.2.1
   have := kE v h.2.2.2.2.1
   simp only [ep,tl,List.length_cons,List.length_nil]; omega
  rw [if_neg k3] at h ⊢
  by_cases k4 : k = 4
  ·rw [if_pos k4] at h ⊢
   simp only [Bool.and_eq_true] at h
   have := pe h.1
   have := jj (fs.map fun x => [x])
   have := my fs h.2.2.2.2.2.2.2.2.2.1.2
   simp only [ep,tl,List.length_cons,List.length_nil]; omega
  rw [if_neg k4] at h ⊢
  by_cases k5 : k = 5
  ·rw [if_pos k5] at h ⊢
   simp only [Bool.and_eq_true] at h
   have := mm h.2.2.2.1 h.2.1
   simp only [ep,tl,List.length_cons,List.length_nil]; omega
  rw [if_neg k5] at h ⊢
  by_cases k6 : k = 6
  ·rw [if_pos k6] at h ⊢
   simp only [Bool.and_eq_true] at h
   have := mv c h.2.2.2.2.2.1
   have := jH b h.2.2.2.2.2.2.2.2.2.2.1 hf2
   have := jH l h.2.2.2.2.2.2.2.2.2.2.2 hf3
   simp only [ep,tl,List.length_cons,List.length_nil]; omega
  rw [if_neg k6] at h ⊢
  by_cases k7 : k = 7
  ·rw [if_pos k7] at h ⊢
   simp only [Bool.and_eq_true] at h
   have := mv c h.2.2.2.2.2.1
   have := qD a h.2.2.2.2.2.2.1
   have := jH b h.2.2.2.2.2.2.2.2.2.2.1 hf2
   simp only [ep,tl,List.length_cons,List.length_nil]; omega
  rw [if_neg k7] at h ⊢
  by_cases k8 : k = 8
  ·rw [if_pos k8] at h ⊢
   simp only [Bool.and_eq_true] at h
   have := mv c h.2.2.2.2.2.1
   simp only [ep,tl,List.length_cons,List.length_nil]; omega
  rw [if_neg k8] at h ⊢
  by_cases k9 : k = 9
  ·rw [if_pos k9] at h
   simp only [Bool.and_eq_true] at h
   have := yY h.1
   have := eU h.2.2.1
   have := jj (rs.map tkE)
   have := jj (gs.map tkE)
   have := qI rs h.2.2.2.2.2.2.2.1
   have := qI gs h.2.2.2.2.2.2.2.2.1
   simp only [ep,tl,List.length_cons,List.length_nil]; omega
  ·rw [if_neg k9] at h; cases h
theorem jH : ∀ l,ig l = true → gt l = true → tl (gq l) ≤ 3000 * nSs l
 | [],_,_ => by simp [gq,tl]
 | e :: r,h,hf => by
  rw [ig,Bool.and_eq_true] at h
  rw [gt,Bool.and_eq_true] at hf
  have h1 := zF e h.1 hf.1
  have h2 := jH r h.2 hf.2
  rw [gq,nSs,ep]; omega
end
def LtT (x : PP) (n : Int) : Prop := x.params.length ≤ 50 ∧ x.ghosts.length ≤ 50 ∧ (nA x.pre : Int) ≤ n ∧ (nA x.post : Int) ≤ n ∧ SN x.body n
theorem SN.le {l : List PS'} {n m : Int} (h : SN l n) (hm : n ≤ m) : SN l m := ⟨by have := h.1; omega,h.2⟩
theorem uk : ∀ (l : List PP) (left : Int),-1 ≤ left → gT l left = true → ∀ x ∈ l,LtT x left
 | [],_,_,_ => fun x hx => absurd hx List.not_mem_nil
 | p :: r,left,hl,h => fun x hx => by
  unfold gT at h
  by_cases h1 : left < 0
  ·rw [if_pos h1] at h; cases h
  rw [if_neg h1] at h
  by_cases h2 : 50 < p.params.length ∨ 50 < p.ghosts.length ∨ 200 < p.name.length
  ·rw [if_pos h2] at h; cases h
  rw [if_neg h2] at h
  have d1 := nY 300 [p.pre,p.post] left hl
  have d2 := dT d1 (oM 300 p.body)
  have hp : 0 ≤ dK (szA 300 [p.pre,p.post] left) (szS 300 p.body) := by
   cases r with
   | nil => rw [gT] at h; exact of_decide_eq_true h
   | cons a b =>
    unfold gT at h
    by_cases h3 : dK (szA 300 [p.pre,p.post] left) (szS 300 p.body) < 0
    ·rw [if_pos h3] at h; cases h
    ·omega
  rcases List.mem_cons.1 hx with rfl | hx
  ·obtain ⟨p1,e1⟩ := fJ hp
   have i1 := mA 300 [x.pre,x.post] left hl p1
   have i2 := mS 300 x.body _ d1.1 (by omega)
   have hv : nAs [x.pre,x.post] = nA x.pre + nA x.post := by simp [nAs]
   exact ⟨by omega,by omega,by omega,by omega,i2.le (by omega)⟩
  ·obtain ⟨q1,q2,q3,q4,q5⟩ := uk r _ d2.1 h x hx
   exact ⟨q1,q2,by omega,by omega,q5.le (by omega)⟩
theorem DH {x : PP} (h : fz x = true) (hl : LtT x 600) : tl (tkP x) ≤ 2000000 := by
 obtain ⟨h1,h2,h3,h4,h5,h6⟩ := hl
 unfold fz at h
 simp only [Bool.and_eq_true] at h
 have := eU h.1
 have := jj (x.params.map fun x => [x])
 have := jj (x.ghosts.map fun x => [x])
 have := my x.params h.2.1
 have := my x.ghosts h.2.2.1
 have := qD x.pre h.2.2.2.1
 have := qD x.post h.2.2.2.2.1
 have := jH x.body h.2.2.2.2.2 h6
 unfold tkP tkB
 simp only [ep,tl,List.length_cons,List.length_nil]; omega
theorem wG : ∀ (l : List PP),(∀ x ∈ l,fz x = true ∧ LtT x 600) → tl (gp l) ≤ 2000000 * l.length
 | [],_ => by simp [gp,tl]
 | x :: r,h => by
  have h1 := DH (h x (List.mem_cons_self ..)).1 (h x (List.mem_cons_self ..)).2
  have h2 := wG r fun y hy => h y (List.mem_cons_of_mem _ hy)
  have e : gp (x :: r) = tkP x ++ gp r := rfl
  rw [e,ep,List.length_cons]; omega
end Go.Proofs.YtkjnkkmokojnpaaGreatDoor
namespace Go.Proofs.YtkjnkkmokojnpaaGreatDoor
set_option linter.unusedSimpArgs false
set_option linter.unusedVariables false
open Go.RowKit
theorem eT {a b : List Wd} (hb : b ≠ []) : bb (a ++ b) = fV a ++ bb b := by
 by_cases ha : a = []
 ·subst ha; rfl
 ·rw [oh ha hb,fp ha,List.append_assoc]; rfl
theorem ec (l : List Wd) (x : Wd) : bb (l ++ [x]) = fV l ++ x := eT (by simp)
theorem dd (x : Wd) (r : List Wd) : fV (x :: r) = x ++ 32 :: fV r := by simp [fV]
theorem dw : fV [] = [] := rfl
theorem yK {p : Int × List Wd} (h : p.2 ≠ []) : inT p ≠ [] := by unfold inT; split <;> simp [h]
theorem oU (b : Bool) {l : List Wd} (h : l ≠ []) : ie b l ≠ [] := by unfold ie; split <;> simp [h]
theorem qH : ∀ e,tkE e ≠ []
 | .mk k n x ks => by
  rw [tkE]
  split
  ·exact uB n
  split
  ·simp
  split
  ·simp
  ·simp
theorem qG : ∀ e,tkC e ≠ []
 | .mk k e ks => by
  rw [tkC]
  repeat' split
  all_goals simp
theorem zI : ∀ e,tkA e ≠ []
 | .mk k c e v f n ks => by
  rw [tkA]
  repeat' split
  all_goals simp
theorem DI : ∀ e,tkS e ≠ []
 | .mk k x f y e v c a rs gs fs b l => by
  rw [tkS]
  repeat' split
  all_goals simp
abbrev dg (n : Int) : Wd := bb (jr n)
theorem CZ {n : Int} (h : n < 0) : dg n = [45,32] ++ dec (-n).toNat := by unfold dg jr; rw [if_pos h]; rfl
theorem C0 {n : Int} (h : ¬ n < 0) : dg n = dec n.toNat := by unfold dg jr; rw [if_neg h]; rfl
theorem uZ {n : Int} (h : iC n = true) : (dg n).length ≤ 13 := Nat.le_trans (fY _) (ke h)
theorem si (n : Int) : fV (jr n) = dg n ++ [32] := fp (uB n)
theorem oz (e : PE) : fV (tkE e) = bb (tkE e) ++ [32] := fp (qH e)
theorem pG (e : PC) : fV (tkC e) = bb (tkC e) ++ [32] := fp (qG e)
theorem tQ (e : PA) : fV (tkA e) = bb (tkA e) ++ [32] := fp (zI e)
theorem Ea (e : PS') : fV (tkS e) = bb (tkS e) ++ [32] := fp (DI e)
abbrev mf (e : PE) : List Wd := inT (e.kind,tkE e)
theorem EW {e : PE} (h : e.kind = 2 ∨ e.kind = 3) : bb (mf e) = [40,32] ++ bb (tkE e) ++ [32,41] := by
 unfold mf inT
 rw [if_pos h,ec]
 simp [dm,dd,dw,oz]
theorem DM {e : PE} (h : ¬ (e.kind = 2 ∨ e.kind = 3)) : bb (mf e) = bb (tkE e) := by
 unfold mf inT
 rw [if_neg h]
theorem EJ (n : Int) (x : Wd) (a : PE) : bb (tkE (.mk 4 n x [a])) = dg n ++ [32,42,32] ++ bb (mf a) := by
 have : tkE (.mk 4 n x [a]) = jr n ++ [[42]] ++ mf a := by rw [tkE,nJ]; simp
 rw [this,eT (yK (qH a))]
 simp [dm,dd,dw,si]
theorem DK {k : Int} (hk : k = 2 ∨ k = 3) (n : Int) (x : Wd) (a b : PE) : bb (tkE (.mk k n x [a,b])) = bb (tkE a) ++ (if k = 3 then [32,45,32] else [32,43,32]) ++ bb (mf b) := by
 have : tkE (.mk k n x [a,b]) = tkE a ++ [if k = 3 then [45] else [43]] ++ mf b := by
  rw [tkE,nJ,if_neg (by omega),if_neg (by omega),if_neg (by omega)]; simp
 rw [this,eT (yK (qH b))]
 split <;> simp [dm,dd,dw,oz]
theorem DL (b : Bool) (c : PC) : bb (ie b (tkC c)) = if b then [91,32] ++ bb (tkC c) ++ [32,93] else bb (tkC c) := by
 unfold ie
 cases b
 ·rfl
 ·rw [if_pos rfl,if_pos rfl,ec]
  simp [dm,dd,dw,pG]
theorem Aa (b : Bool) (c : PC) : fV (ie b (tkC c)) = bb (ie b (tkC c)) ++ [32] := fp (oU b (qG c))
def hi7 (c : PC) : Bool := decide (c.kind = 7) || decide (c.kind = 8)
def hi8 (c : PC) : Bool := decide (c.kind = 8)
theorem EF (e : List PE) (a : PC) : bb (tkC (.mk 6 e [a])) = [33,32] ++ bb (ie (hi7 a) (tkC a)) := by
 have : tkC (.mk 6 e [a]) = [[33]] ++ ie (hi7 a) (tkC a) := by rw [tkC,nI]; simp [hi7]
 rw [this,eT (oU _ (qG a))]
 simp [dm,dd,dw]
theorem EG (e : List PE) (a b : PC) : bb (tkC (.mk 7 e [a,b])) = bb (ie (hi8 a) (tkC a)) ++ [32,38,38,32] ++ bb (ie (hi7 b) (tkC b)) := by
 have : tkC (.mk 7 e [a,b]) = ie (hi8 a) (tkC a) ++ [[38,38]] ++ ie (hi7 b) (tkC b) := by rw [tkC,nI]; simp [hi7,hi8]
 rw [this,eT (oU _ (qG b))]
 simp [dm,dd,dw,Aa]
theorem EH (e : List PE) (a b : PC) : bb (tkC (.mk 8 e [a,b])) = bb (tkC a) ++ [32,124,124,32] ++ bb (ie (hi8 b) (tkC b)) := by
 have : tkC (.mk 8 e [a,b]) = tkC a ++ [[124,124]] ++ ie (hi8 b) (tkC b) := by rw [tkC,nI]; simp [hi7,hi8]
 rw [this,eT (oU _ (qG b))]
 simp [dm,dd,dw,pG]
def opT (k : Int) : Wd := if k = 3 then [32,33,61,32] else if k = 4 then [32,60,32] else if k = 5 then [32,60,61,32] else [32,61,61,32]
theorem EI {k : Int} (hk : k = 2 ∨ k = 3 ∨ k = 4 ∨ k = 5) (a b : PE) : bb (tkC (.mk k [a,b] [])) = bb (tkE a) ++ opT k ++ bb (tkE b) := by
 have : tkC (.mk k [a,b] []) = tkE a ++ [yb k] ++ tkE b := by
  rw [tkC,nJ]
  rw [if_neg (by omega),if_neg (by omega),if_neg (by omega),if_neg (by omega),if_neg (by omega)]; simp
 rw [this,eT (qH b)]
 rcases hk with rfl | rfl | rfl | rfl <;> simp [dm,dd,dw,oz,opT,yb]
theorem Ey (c : PC) (e v : PE) (f : Wd) (n : Int) (ks : List PA) : bb (tkA (.mk 1 c e v f n ks)) = [91,32] ++ bb (tkC c) ++ [32,93] := by
 have : tkA (.mk 1 c e v f n ks) = [[91]] ++ tkC c ++ [[93]] := by rw [tkA]; simp
 rw [this,ec]
 simp [dm,dd,dw,pG]
theorem Ez (c : PC) (e v : PE) (f : Wd) (n : Int) (ks : List PA) : bb (tkA (.mk 2 c e v f n ks)) = [97,99,99,32,40,32] ++ bb (tkE e) ++ [32,46,32] ++ f ++ [32,44,32] ++ dg n ++ [32,41] := by
 have : tkA (.mk 2 c e v f n ks) = [[97,99,99],[40]] ++ tkE e ++ [[46],f,[44]] ++ jr n ++ [[41]] := by rw [tkA]; simp
 rw [this,ec]
 simp [dm,dd,dw,oz,si]
theorem EB (c : PC) (e v : PE) (f : Wd) (n : Int) (ks : List PA) : bb (tkA (.mk 3 c e v f n ks)) = [112,116,115,32,40,32] ++ bb (tkE e) ++ [32,46,32] ++ f ++ [32,44,32] ++ dg n ++ [32,44,32] ++ bb (tkE v) ++ [32,41] := by
 have : tkA (.mk 3 c e v f n ks) = [[112,116,115],[40]] ++ tkE e ++ [[46],f,[44]] ++ jr n ++ [[44]] ++ tkE v ++ [[41]] := by rw [tkA]; simp
 rw [this,ec]
 simp [dm,dd,dw,oz,si]
theorem ED (c : PC) (e v : PE) (f : Wd) (n : Int) (a b : PA) : bb (tkA (.mk 4 c e v f n [a,b])) = bb (tkA a) ++ [32,38,32] ++ (if b.kind = 4 then [40,32] ++ bb (tkA b) ++ [32,41] else bb (tkA b)) := by
 have : tkA (.mk 4 c e v f n [a,b]) = tkA a ++ [[38]] ++ (if b.kind = 4 then [[40]] ++ tkA b ++ [[41]] else tkA b) := by rw [tkA,qF]; simp
 rw [this]
 split
 ·rw [eT (by simp),ec]
  simp [dm,dd,dw,tQ]
 ·rw [eT (zI b)]
  simp [dm,dd,dw,tQ]
theorem EE (c : PC) (e v : PE) (f : Wd) (n : Int) (a b : PA) : bb (tkA (.mk 5 c e v f n [a,b])) = [105,102,32] ++ bb (tkC c) ++ [32,123,32] ++ bb (tkA a) ++ [32,125,32,101,108,115,101,32,123,32] ++ bb (tkA b) ++ [32,125] := by
 have : tkA (.mk 5 c e v f n [a,b]) = [[105,102]] ++ tkC c ++ [[123]] ++ tkA a ++ [[125],[101,108,115,101],[123]] ++ tkA b ++ [[125]] := by rw [tkA,qF]; simp
 rw [this,ec]
 simp [dm,dd,dw,pG,tQ]
def kP (b : List PS') : Wd := [123,32] ++ fV (gq b) ++ [125]
theorem qK (b : List PS') : bb (tkB b) = kP b := by
 unfold tkB kP
 rw [ec]
 simp [dm,dd,dw]
theorem tr (b : List PS') : tkB b ≠ [] := by simp [tkB]
theorem D9 (b : List PS') : fV (tkB b) = kP b ++ [32] := by rw [fp (tr b),qK]
def gR (l : List (List Wd)) : Wd := fV (js l)
def nmT (x : Wd) : Wd := if x = [] then [] else x ++ [32,58,61,32]
def nmW (x : Wd) : List Wd := if x.isEmpty then [] else [x,[58,61]]
theorem sg (x : Wd) : fV (nmW x) = nmT x := by
 unfold nmW nmT
 cases x <;> simp [fV]
def plT (e : PE) (f : Wd) : Wd := bb (tkE e) ++ [32,46,32] ++ f
theorem uT (e : PE) (f : Wd) : fV (jM e f) = plT e f ++ [32] := by
 unfold jM plT
 simp [dm,dd,dw,oz]
section
variable (x f y : Wd) (e v : PE) (c : PC) (a : PA) (rs gs : List PE) (fs : List Wd) (b l : List PS')
theorem EL : bb (tkS (.mk 0 x f y e v c a rs gs fs b l)) = [115,107,105,112,32,59] := by rw [tkS]; rfl
theorem EM : bb (tkS (.mk 1 x f y e v c a rs gs fs b l)) = nmT x ++ bb (tkE e) ++ [32,59] := by
 have : tkS (.mk 1 x f y e v c a rs gs fs b l) = nmW x ++ tkE e ++ [[59]] := by rw [tkS]; rfl
 rw [this,ec]
 simp [dm,dd,dw,oz,sg]
theorem EN : bb (tkS (.mk 2 x f y e v c a rs gs fs b l)) = nmT x ++ [103,101,116,32] ++ plT e f ++ [32,59] := by
 have : tkS (.mk 2 x f y e v c a rs gs fs b l) = nmW x ++ [[103,101,116]] ++ jM e f ++ [[59]] := by rw [tkS]; rfl
 rw [this,ec]
 simp [dm,dd,dw,uT,sg]
theorem EO : bb (tkS (.mk 3 x f y e v c a rs gs fs b l)) = [112,117,116,32] ++ plT e f ++ [32,58,61,32] ++ bb (tkE v) ++ [32,59] := by
 have : tkS (.mk 3 x f y e v c a rs gs fs b l) = [[112,117,116]] ++ jM e f ++ [[58,61]] ++ tkE v ++ [[59]] := by rw [tkS]; rfl
 rw [this,ec]
 simp [dm,dd,dw,uT,oz]
theorem EP : bb (tkS (.mk 4 x f y e v c a rs gs fs b l)) = nmT x ++ [110,101,119,32,40,32] ++ gR (fs.map fun x => [x]) ++ [41,32,59] := by
 have : tkS (.mk 4 x f y e v c a rs gs fs b l) = nmW x ++ [[110,101,119],[40]] ++ js (fs.map fun x => [x]) ++ [[41]] ++ [[59]] := by rw [tkS]; simp [nmW]
 rw [this,ec]
 simp [dm,dd,dw,gR,sg]
theorem EQ : bb (tkS (.mk 5 x f y e v c a rs gs fs b l)) = [102,114,101,101,32] ++ plT e f ++ [32,59] := by
 have : tkS (.mk 5 x f y e v c a rs gs fs b l) = [[102,114,101,101]] ++ jM e f ++ [[59]] := by rw [tkS]; rfl
 rw [this,ec]
 simp [dm,dd,dw,uT]
theorem ER : bb (tkS (.mk 6 x f y e v c a rs gs fs b l)) = [105,102,32] ++ bb (tkC c) ++ [32] ++ kP b ++ [32,101,108,115,101,32] ++ kP l := by
 have : tkS (.mk 6 x f y e v c a rs gs fs b l) = [[105,102]] ++ tkC c ++ tkB b ++ [[101,108,115,101]] ++ tkB l := by rw [tkS]; simp [tkB]
 rw [this,eT (tr l),qK]
 simp [dm,dd,dw,pG,D9]
theorem ET : bb (tkS (.mk 7 x f y e v c a rs gs fs b l)) = [119,104,105,108,101,32] ++ bb (tkC c) ++ [32,105,110,118,97,114,105,97,110,116,32] ++ bb (tkA a) ++ [32] ++ kP b := by
 have : tkS (.mk 7 x f y e v c a rs gs fs b l) = [[119,104,105,108,101]] ++ tkC c ++ [[105,110,118,97,114,105,97,110,116]] ++ tkA a ++ tkB b := by rw [tkS]; simp [tkB]
 rw [this,eT (tr b),qK]
 simp [dm,dd,dw,pG,tQ]
theorem EU : bb (tkS (.mk 8 x f y e v c a rs gs fs b l)) = [97,115,115,101,114,116,32] ++ bb (tkC c) ++ [32,59] := by
 have : tkS (.mk 8 x f y e v c a rs gs fs b l) = [[97,115,115,101,114,116]] ++ tkC c ++ [[59]] := by rw [tkS]; rfl
 rw [this,ec]
 simp [dm,dd,dw,pG]
theorem EV : bb (tkS (.mk 9 x f y e v c a rs gs fs b l)) = nmT x ++ [99,97,108,108,32] ++ y ++ [32,40,32] ++ gR (rs.map tkE) ++ [59,32] ++ gR (gs.map tkE) ++ [41,32,59] := by
 have : tkS (.mk 9 x f y e v c a rs gs fs b l) = nmW x ++ [[99,97,108,108],y,[40]] ++ js (rs.map tkE) ++ [[59]] ++ js (gs.map tkE) ++ [[41]] ++ [[59]] := by rw [tkS]; simp [nmW]
 rw [this,ec]
 simp [dm,dd,dw,gR,sg]
end
theorem E9 (p : PP) : bb (tkP p) = [112,114,111,99,32] ++ p.name ++ [32,40,32] ++ gR (p.params.map fun x => [x]) ++ [59,32] ++ gR (p.ghosts.map fun x => [x]) ++ [41,32,114,101,113,117,105,114,101,115,32] ++ bb (tkA p.pre) ++ [32,101,110,115,117,114,101,115,32] ++ bb (tkA p.post) ++ [32] ++ kP p.body := by
 unfold tkP
 rw [eT (tr _),qK]
 simp [dm,dd,dw,gR,tQ]
theorem zJ (p : PP) : tkP p ≠ [] := by simp [tkP]
theorem B9 {p : PP} {r : List PP} : gp (p :: r) ≠ [] := by simp [gp,zJ]
theorem xF (l : List PP) (p : PP) : gp (l ++ [p]) = gp l ++ tkP p := by simp [gp]
theorem EK (l : List PP) (p : PP) : bb (gp (l ++ [p])) = if l = [] then bb (tkP p) else bb (gp l) ++ [32] ++ bb (tkP p) := by
 rw [xF]
 cases l with
 | nil => simp [gp]
 | cons a r => rw [oh B9 (zJ p),if_neg (by simp)]; simp
theorem xG {l : List PP} {k : Nat} (h : k < l.length) : bb (gp (l.take (k + 1))) = if k = 0 then bb (tkP l[k]) else bb (gp (l.take k)) ++ [32] ++ bb (tkP l[k]) := by
 rw [List.take_succ_eq_append_getElem h,EK]
 by_cases hk : k = 0
 ·subst hk; rfl
 ·rw [if_neg hk,if_neg]
  intro e
  have := congrArg List.length e
  rw [List.length_take,List.length_nil] at this
  omega
theorem wY (l : List (List Wd)) (a : List Wd) : js (l ++ [a]) = if l = [] then a else js l ++ [[44]] ++ a := by
 induction l with
 | nil => simp [js]
 | cons x r ih =>
  have h1 : js (x :: (r ++ [a])) = x ++ [[44]] ++ js (r ++ [a]) := by rw [js,if_neg (by simp)]
  rw [List.cons_append,h1,ih,if_neg (show ¬ x :: r = [] by simp)]
  by_cases hr : r = []
  ·subst hr; simp [js]
  ·have h2 : js (x :: r) = x ++ [[44]] ++ js r := by rw [js,if_neg (by simpa using hr)]
   rw [if_neg hr,h2]; simp
theorem xl {l : List (List Wd)} {k : Nat} (h : k < l.length) (hne : l[k] ≠ []) : gR (l.take (k + 1)) = (if k = 0 then [] else gR (l.take k) ++ [44,32]) ++ bb l[k] ++ [32] := by
 unfold gR
 rw [List.take_succ_eq_append_getElem h,wY]
 by_cases hk : k = 0
 ·subst hk; simp [fp hne]
 ·rw [if_neg hk,if_neg]
  ·simp [dm,dd,dw,fp hne]
  ·intro e
   have := congrArg List.length e
   rw [List.length_take,List.length_nil] at this
   omega
theorem zZ {l : List PS'} {k : Nat} (h : k < l.length) : fV (gq (l.take (k + 1))) = fV (gq (l.take k)) ++ bb (tkS l[k]) ++ [32] := by
 have : ∀ a b : List PS',gq (a ++ b) = gq a ++ gq b := fun a b => by
  induction a with
  | nil => rfl
  | cons x r ih => rw [List.cons_append,gq,gq,ih,List.append_assoc]
 rw [List.take_succ_eq_append_getElem h,this,dm]
 simp [gq,Ea]
end Go.Proofs.YtkjnkkmokojnpaaGreatDoor

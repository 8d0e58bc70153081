/- How much a light program can have: bounds for its names. No program is in sight. -/
import Derived.Test.YtkjnkkmokojnpaaGreatDoorZ24
namespace Go.Proofs.YtkjnkkmokojnpaaGreatDoor
set_option linter.unusedSimpArgs false
set_option linter.unusedVariables false
open Go.RowKit
theorem iD {a : Int} {f : Int → Int} (h : 0 ≤ dK a f) : 0 ≤ a ∧ dK a f = f a := by
 unfold dK at h ⊢
 by_cases ha : 0 ≤ a
 ·rw [if_pos ha]; exact ⟨ha,rfl⟩
 ·rw [if_neg ha] at h; exact absurd h ha
theorem cEl (d : Nat) (ih : ∀ (l : List PE) (left : Int),-1 ≤ left → 0 ≤ szE d l left → ((vEs l).length : Int) ≤ left - szE d l left) : ∀ (l : List PE) (left : Int),-1 ≤ left → 0 ≤ ls (szE d) l left → ((vEs l).length : Int) ≤ left - ls (szE d) l left
 | [],left,_,_ => by simp [ls,vEs]
 | .mk k n x ks :: r,left,hl,h => by
  unfold ls at h ⊢
  by_cases h1 : left < 0
  ·rw [if_pos h1] at h; omega
  rw [if_neg h1] at h ⊢
  by_cases h2 : 200 < x.length
  ·rw [if_pos h2] at h; omega
  rw [if_neg h2] at h ⊢
  have d1 := iK d ks (left - 1) (by omega)
  have d2 := vX (iK d) r (szE d ks (left - 1)) d1.1
  have i1 := ih ks (left - 1) (by omega) (by omega)
  have i2 := cEl d ih r _ d1.1 h
  have hv : (vEs (.mk k n x ks :: r)).length = ((if k = 1 then [x] else []) : List Wd).length + (vEs ks).length + (vEs r).length := by rw [vEs,vE]; simp only [List.length_append]
  have hk : ((if k = 1 then [x] else []) : List Wd).length ≤ 1 := by split <;> simp
  omega
theorem cE : ∀ (d : Nat) (l : List PE) (left : Int),-1 ≤ left → 0 ≤ szE d l left → ((vEs l).length : Int) ≤ left - szE d l left
 | 0 => fun l left _ h => absurd h (by simp [szE])
 | d + 1 => cEl d (cE d)
theorem cCl (d : Nat) (ih : ∀ (l : List PC) (left : Int),-1 ≤ left → 0 ≤ szC d l left → ((vCs l).length : Int) ≤ left - szC d l left) : ∀ (l : List PC) (left : Int),-1 ≤ left → 0 ≤ lq d (szC d) l left → ((vCs l).length : Int) ≤ left - lq d (szC d) l left
 | [],left,_,_ => by simp [lq,vCs]
 | .mk k e ks :: r,left,hl,h => by
  unfold lq at h ⊢
  by_cases h1 : left < 0
  ·rw [if_pos h1] at h; omega
  rw [if_neg h1] at h ⊢
  have d1 := iK d e (left - 1) (by omega)
  by_cases h2 : 0 ≤ szE d e (left - 1)
  ·rw [if_pos h2] at h ⊢
   have d2 := lY d ks _ d1.1
   have d3 := pO d (lY d) r _ d2.1
   have i0 := cE d e (left - 1) (by omega) h2
   have i1 := ih ks _ d1.1 (by omega)
   have i2 := cCl d ih r _ d2.1 h
   have hv : (vCs (.mk k e ks :: r)).length = (vEs e).length + (vCs ks).length + (vCs r).length := by rw [vCs,vC]; simp only [List.length_append]
   omega
  ·rw [if_neg h2] at h
   have d3 := pO d (lY d) r _ d1.1
   omega
theorem cC : ∀ (d : Nat) (l : List PC) (left : Int),-1 ≤ left → 0 ≤ szC d l left → ((vCs l).length : Int) ≤ left - szC d l left
 | 0 => fun l left _ h => absurd h (by simp [szC])
 | d + 1 => cCl d (cC d)
theorem cAl (d : Nat) (ih : ∀ (l : List PA) (left : Int),-1 ≤ left → 0 ≤ szA d l left → ((vAs l).length : Int) ≤ left - szA d l left) : ∀ (l : List PA) (left : Int),-1 ≤ left → 0 ≤ lm d (szA d) l left → ((vAs l).length : Int) ≤ left - lm d (szA d) l left
 | [],left,_,_ => by simp [lm,vAs]
 | .mk k c e v x n ks :: r,left,hl,h => by
  unfold lm at h ⊢
  by_cases h1 : left < 0
  ·rw [if_pos h1] at h; omega
  rw [if_neg h1] at h ⊢
  by_cases h2 : 200 < x.length
  ·rw [if_pos h2] at h; omega
  rw [if_neg h2] at h ⊢
  have d1 := lY d [c] (left - 1) (by omega)
  have d2 := dT d1 (iK d [e,v])
  have d3 := dT d2 (nY d ks)
  have d4 := vW d (nY d) r _ d3.1
  obtain ⟨p2,e2⟩ := iD (a := dK (szC d [c] (left - 1)) (szE d [e,v])) (f := szA d ks) (by omega)
  obtain ⟨p1,e1⟩ := iD p2
  have i0 := cC d [c] (left - 1) (by omega) p1
  have i1 := cE d [e,v] _ d1.1 (by omega)
  have i2 := ih ks _ d2.1 (by omega)
  have i3 := cAl d ih r _ d3.1 h
  have v1 : (vCs [c]).length = (vC c).length := by simp [vCs]
  have v2 : (vEs [e,v]).length = (vE e).length + (vE v).length := by simp [vEs]
  have hv : (vAs (.mk k c e v x n ks :: r)).length = (vC c).length + (vE e).length + (vE v).length + (vAs ks).length + (vAs r).length := by rw [vAs,vA]; simp only [List.length_append]; omega
  omega
theorem cA : ∀ (d : Nat) (l : List PA) (left : Int),-1 ≤ left → 0 ≤ szA d l left → ((vAs l).length : Int) ≤ left - szA d l left
 | 0 => fun l left _ h => absurd h (by simp [szA])
 | d + 1 => cAl d (cA d)
def SB (l : List PS') (n : Int) : Prop := ((flL l).length : Int) ≤ n ∧ ∀ t ∈ flL l,((vS t).length : Int) ≤ n
theorem cSl (d : Nat) (ih : ∀ (l : List PS') (left : Int),-1 ≤ left → 0 ≤ szS d l left → SB l (left - szS d l left)) : ∀ (l : List PS') (left : Int),-1 ≤ left → 0 ≤ kM d (szS d) l left → SB l (left - kM d (szS d) l left)
 | [],left,_,_ => ⟨by simp [kM,flL],fun t ht => absurd ht (by simp [flL])⟩
 | .mk k x y z e v c a rs gs fs b l :: r,left,hl,h => by
  unfold kM at h ⊢
  by_cases h1 : left < 0
  ·rw [if_pos h1] at h; omega
  rw [if_neg h1] at h ⊢
  by_cases h2 : 50 < fs.length ∨ 200 < x.length ∨ 200 < y.length ∨ 200 < z.length
  ·rw [if_pos h2] at h; omega
  rw [if_neg h2] at h ⊢
  have d1 := lY d [c] (left - 1) (by omega)
  have d2 := dT ⟨d1.1,Int.le_refl _⟩ (iK d [e,v])
  have d3 := dT ⟨d2.1,Int.le_refl _⟩ (iK d rs)
  have d4 := dT ⟨d3.1,Int.le_refl _⟩ (iK d gs)
  have d5 := dT ⟨d4.1,Int.le_refl _⟩ (nY d [a])
  have d6 := dT ⟨d5.1,Int.le_refl _⟩ (oM d b)
  have d7 := dT ⟨d6.1,Int.le_refl _⟩ (oM d l)
  have d8 := vY d (oM d) r _ d7.1
  have i3 := cSl d ih r _ d7.1 h
  generalize hz1 : szC d [c] (left - 1) = z1 at *
  generalize hz2 : dK z1 (szE d [e,v]) = z2 at *
  generalize hz3 : dK z2 (szE d rs) = z3 at *
  generalize hz4 : dK z3 (szE d gs) = z4 at *
  generalize hz5 : dK z4 (szA d [a]) = z5 at *
  generalize hz6 : dK z5 (szS d b) = z6 at *
  generalize hz7 : dK z6 (szS d l) = z7 at *
  obtain ⟨n6,e7⟩ := iD (a := z6) (f := szS d l) (by rw [hz7]; omega)
  obtain ⟨n5,e6⟩ := iD (a := z5) (f := szS d b) (by rw [hz6]; omega)
  obtain ⟨n2,e3⟩ := iD (a := z2) (f := szE d rs) (by rw [hz3]; omega)
  obtain ⟨n1,e2⟩ := iD (a := z1) (f := szE d [e,v]) (by rw [hz2]; omega)
  rw [hz7] at e7
  rw [hz6] at e6
  rw [hz3] at e3
  rw [hz2] at e2
  have i0 := cC d [c] (left - 1) (by omega) (by rw [hz1]; omega)
  rw [hz1] at i0
  have i1 := cE d [e,v] z1 (by omega) (by rw [← e2]; omega)
  have i2 := cE d rs z2 (by omega) (by rw [← e3]; omega)
  have i5 := ih b z5 (by omega) (by rw [← e6]; omega)
  have i6 := ih l z6 (by omega) (by rw [← e7]; omega)
  rw [← e2] at i1
  rw [← e3] at i2
  rw [← e6] at i5
  rw [← e7] at i6
  have v1 : (vCs [c]).length = (vC c).length := by simp [vCs]
  have v2 : (vEs [e,v]).length = (vE e).length + (vE v).length := by simp [vEs]
  have hf : flL (.mk k x y z e v c a rs gs fs b l :: r) = .mk k x y z e v c a rs gs fs b l :: (flL b ++ flL l) ++ flL r := by rw [flL,flS]
  have hv : (vS (.mk k x y z e v c a rs gs fs b l)).length = (vE e).length + (vE v).length + (vC c).length + (vEs rs).length := by rw [vS]; simp only [List.length_append]; omega
  refine ⟨?_,?_⟩
  ·rw [hf]
   simp only [List.cons_append,List.length_cons,List.length_append]
   have := i3.1; have := i5.1; have := i6.1
   omega
  ·intro t ht
   rw [hf] at ht
   simp only [List.cons_append,List.mem_cons,List.mem_append] at ht
   rcases ht with rfl | (ht | ht) | ht
   ·omega
   ·have := i5.2 t ht; omega
   ·have := i6.2 t ht; omega
   ·have := i3.2 t ht; omega
theorem cS : ∀ (d : Nat) (l : List PS') (left : Int),-1 ≤ left → 0 ≤ szS d l left → SB l (left - szS d l left)
 | 0 => fun l left _ h => absurd h (by simp [szS])
 | d + 1 => cSl d (cS d)
theorem xR (o : List Wd) (x : Wd) : (oK o x).length ≤ o.length + 1 := by unfold oK; split <;> simp
theorem tN : ∀ (l : List PS') (o : List Wd),(l.foldl (fun o s => oK o s.name) o).length ≤ o.length + l.length
 | [],o => Nat.le_refl _
 | s :: r,o => by
  have h1 := xR o s.name
  have h2 := tN r (oK o s.name)
  rw [List.foldl_cons,List.length_cons]
  omega
def LtP (x : PP) (n : Int) : Prop := x.params.length ≤ 50 ∧ x.ghosts.length ≤ 50 ∧ ((vA x.pre).length : Int) ≤ n ∧ ((vA x.post).length : Int) ≤ n ∧ SB x.body n
theorem SB.le {l : List PS'} {n m : Int} (h : SB l n) (hm : n ≤ m) : SB l m := ⟨by have := h.1; omega,fun t ht => by have := h.2 t ht; omega⟩
theorem uh : ∀ (l : List PP) (left : Int),-1 ≤ left → gT l left = true → ∀ x ∈ l,LtP x left
 | [],_,_,_ => fun x hx => absurd hx List.not_mem_nil
 | p :: r,left,hl,h => fun x hx => by
  unfold gT at h
  by_cases h1 : left < 0
  ·rw [if_pos h1] at h; cases h
  rw [if_neg h1] at h
  by_cases h2 : 50 < p.params.length ∨ 50 < p.ghosts.length ∨ 200 < p.name.length
  ·rw [if_pos h2] at h; cases h
  rw [if_neg h2] at h
  have d1 := nY 300 [p.pre,p.post] left hl
  have d2 := dT d1 (oM 300 p.body)
  have hp : 0 ≤ dK (szA 300 [p.pre,p.post] left) (szS 300 p.body) := by
   cases r with
   | nil => rw [gT] at h; exact of_decide_eq_true h
   | cons a b =>
    unfold gT at h
    by_cases h3 : dK (szA 300 [p.pre,p.post] left) (szS 300 p.body) < 0
    ·rw [if_pos h3] at h; cases h
    ·omega
  rcases List.mem_cons.1 hx with rfl | hx
  ·obtain ⟨p1,e1⟩ := iD hp
   have i1 := cA 300 [x.pre,x.post] left hl p1
   have i2 := cS 300 x.body _ d1.1 (by omega)
   have hv : (vAs [x.pre,x.post]).length = (vA x.pre).length + (vA x.post).length := by simp [vAs]
   exact ⟨by omega,by omega,by omega,by omega,i2.le (by omega)⟩
  ·obtain ⟨q1,q2,q3,q4,q5⟩ := uh r _ d2.1 h x hx
   exact ⟨q1,q2,by omega,by omega,q5.le (by omega)⟩
end Go.Proofs.YtkjnkkmokojnpaaGreatDoor

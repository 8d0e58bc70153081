/- Cut: lines that follow, as functions; the code's way (a map) and the document's (the next variable, again and again) are one. No program is in sight. Cut: how great sums can be; what is told is sound. No program is in sight. Cut: whatever makes all premises at most 0 makes all lines so. No program is in sight. -/
import Derived.Test.YtiiaokjgbjhfhaaGreatDoorRows
namespace Go.Proofs.YtiiaokjgbjhfhaaGreatDoor
set_option linter.unusedSimpArgs false
set_option linter.unusedVariables false
abbrev Tm := Int × Int
structure Ln where
 c : Int
 t : List Tm
structure Stp where
 parts : List Tm
 div : Int
def cM (k : Int) : Bool := decide (-1073741824 ≤ k) && decide (k ≤ 1073741824)
def f6 (v : Int) : Bool := decide (0 ≤ v) && decide (v < 1048576)
def fQ (last : Int) (m : Tm) : Bool := f6 m.1 && (cM m.2 && (!decide (m.2 = 0) && decide (last < m.1)))
def cC : Int → List Tm → Bool
 | _,[] => true
 | last,m :: r => fQ last m && cC m.1 r
def dd (l : Ln) : Bool := cM l.c && (decide (l.t.length ≤ 64) && cC (-1) l.t)
def j3 : List Tm → Int → Int
 | [],_ => 0
 | m :: r,v => (if m.1 = v then m.2 else 0) + j3 r v
def cm (p : Int) (t : List Tm) : List Tm := t.map fun m => (m.1,p * m.2)
theorem kH : ∀ (a b : List Tm) (v : Int),j3 (a ++ b) v = j3 a v + j3 b v
 | [],b,v => by simp [j3]
 | m :: r,b,v => by rw [List.cons_append,j3,j3,kH r b v];omega
def ko : List Tm → Int → Int
 | [],_ => 0
 | m :: r,v => if m.1 = v then m.2 else ko r v
def kw : List Tm → Int → Int → List Tm
 | [],v,x => [(v,x)]
 | m :: r,v,x => if m.1 = v then (m.1,x) :: r else m :: kw r v x
def nW (M : List Tm) (m : Tm) : List Tm := kw M m.1 (ko M m.1 + m.2)
theorem kp : ∀ (M : List Tm) (v x u : Int),ko (kw M v x) u = if v = u then x else ko M u
 | [],v,x,u => by simp [kw,ko]
 | m :: r,v,x,u => by
  unfold kw
  by_cases h : m.1 = v
  ·rw [if_pos h]
   unfold ko
   by_cases h2 : m.1 = u
   ·rw [if_pos h2,if_pos (by omega)]
   ·rw [if_neg h2,if_neg (by omega),if_neg h2]
  ·rw [if_neg h]
   unfold ko
   by_cases h2 : m.1 = u
   ·rw [if_pos h2,if_neg (by omega),if_pos h2]
   ·rw [if_neg h2,kp r v x u,if_neg h2]
theorem ir : ∀ (M : List Tm) (v x : Int),(kw M v x).map (·.1) = if v ∈ M.map (·.1) then M.map (·.1) else M.map (·.1) ++ [v]
 | [],v,x => by simp [kw]
 | m :: r,v,x => by
  unfold kw
  by_cases h : m.1 = v
  ·rw [if_pos h,if_pos (by simp [h])];rfl
  ·have h' : ¬ v = m.1 := fun e => h e.symm
   rw [if_neg h,List.map_cons,ir r v x]
   by_cases h2 : v ∈ r.map (·.1)
   ·rw [if_pos h2,if_pos (by rw [List.map_cons];exact List.mem_cons_of_mem _ h2)];rfl
   ·rw [if_neg h2,if_neg (by rw [List.map_cons,List.mem_cons];exact fun e => e.elim h' h2)];rfl
structure MapOf (M ts : List Tm) : Prop where
 get : ∀ v,ko M v = j3 ts v
 key : ∀ v,v ∈ M.map (·.1) ↔ v ∈ ts.map (·.1)
 nd : (M.map (·.1)).Nodup
theorem MapOf.add {M ts : List Tm} (h : MapOf M ts) (m : Tm) : MapOf (nW M m) (ts ++ [m]) := by
 refine ⟨fun v => ?_,fun v => ?_,?_⟩
 ·unfold nW
  rw [kp,kH]
  simp only [j3]
  by_cases hv : m.1 = v
  ·subst hv;rw [if_pos rfl,if_pos rfl,h.get];omega
  ·rw [if_neg hv,if_neg hv,h.get];omega
 ·unfold nW
  rw [ir]
  by_cases hm : m.1 ∈ M.map (·.1)
  ·rw [if_pos hm,h.key,List.map_append,List.mem_append]
   constructor
   ·exact .inl
   ·rintro (hv | hv)
    ·exact hv
    ·simp at hv;subst hv;exact (h.key _).1 hm
  ·rw [if_neg hm,List.map_append,List.mem_append,List.mem_append,h.key]
   simp
 ·unfold nW
  rw [ir]
  by_cases hm : m.1 ∈ M.map (·.1)
  ·rw [if_pos hm];exact h.nd
  ·rw [if_neg hm]
   exact List.nodup_append.2 ⟨h.nd,by simp,fun x hx y hy => by simp at hy;subst hy;intro e;exact hm (e ▸ hx)⟩
end Go.Proofs.YtiiaokjgbjhfhaaGreatDoor
namespace Go.Proofs.YtiiaokjgbjhfhaaGreatDoor
set_option linter.unusedSimpArgs false
set_option linter.unusedVariables false
def mS (b : Int) (m : Tm) : Prop := 0 ≤ m.1 ∧ m.1 < 1048576 ∧ -b ≤ m.2 ∧ m.2 ≤ b
theorem coefB_iff {k : Int} : cM k = true ↔ -1073741824 ≤ k ∧ k ≤ 1073741824 := by unfold cM;simp
theorem eW : ∀ (last : Int) (t : List Tm),cC last t = true → ∀ m ∈ t,mS 1073741824 m ∧ m.2 ≠ 0 ∧ last < m.1
 | _,[],_ => fun m hm => absurd hm List.not_mem_nil
 | last,a :: r,h => fun m hm => by
  rw [cC,Bool.and_eq_true] at h
  obtain ⟨h1,h2⟩ := h
  unfold fQ f6 cM at h1
  simp only [Bool.and_eq_true,decide_eq_true_eq,Bool.not_eq_true',decide_eq_false_iff_not] at h1
  rcases List.mem_cons.1 hm with rfl | hm
  ·exact ⟨⟨h1.1.1,h1.1.2,h1.2.1.1,h1.2.1.2⟩,h1.2.2.1,h1.2.2.2⟩
  ·obtain ⟨a1,a2,a3⟩ := eW a.1 r h2 m hm
   exact ⟨a1,a2,by omega⟩
theorem fj {l : Ln} (h : dd l = true) : (-1073741824 ≤ l.c ∧ l.c ≤ 1073741824) ∧ l.t.length ≤ 64 ∧ ∀ m ∈ l.t,mS 1073741824 m := by
 unfold dd at h
 simp only [Bool.and_eq_true,decide_eq_true_eq] at h
 exact ⟨coefB_iff.1 h.1,h.2.1,fun m hm => (eW _ _ h.2.2 m hm).1⟩
theorem nE {p k : Int} (hp1 : 1 ≤ p) (hp : p ≤ 4096) (h1 : -1073741824 ≤ k) (h2 : k ≤ 1073741824) : -4398046511104 ≤ p * k ∧ p * k ≤ 4398046511104 := by
 have a1 : p * k ≤ p * 1073741824 := Int.mul_le_mul_of_nonneg_left h2 (by omega)
 have a2 : p * (-1073741824) ≤ p * k := Int.mul_le_mul_of_nonneg_left h1 (by omega)
 omega
theorem mK {p : Int} (hp1 : 1 ≤ p) (hp : p ≤ 4096) {t : List Tm} (h : ∀ m ∈ t,mS 1073741824 m) : ∀ m ∈ cm p t,mS 4398046511104 m := fun m hm => by
 obtain ⟨x,hx,rfl⟩ := List.mem_map.1 hm
 obtain ⟨h1,h2,h3,h4⟩ := h x hx
 obtain ⟨a1,a2⟩ := nE hp1 hp h3 h4
 exact ⟨h1,h2,a1,a2⟩
structure PrOk (n : Nat) (c : Int) (ts : List Tm) : Prop where
 c1 : -(n * 4398046511104) ≤ c
 c2 : c ≤ n * 4398046511104
 len : ts.length ≤ n * 64
 ok : ∀ m ∈ ts,mS 4398046511104 m
theorem PrOk.add {n : Nat} {c : Int} {ts : List Tm} (h : PrOk n c ts) {l : Ln} (hl : dd l = true) {p : Int} (hp1 : 1 ≤ p) (hp : p ≤ 4096) : PrOk (n + 1) (c + p * l.c) (ts ++ cm p l.t) := by
 obtain ⟨⟨l1,l2⟩,l3,l4⟩ := fj hl
 obtain ⟨a1,a2⟩ := nE hp1 hp l1 l2
 obtain ⟨h1,h2,h3,h4⟩ := h
 refine ⟨by omega,by omega,?_,fun m hm => ?_⟩
 ·have : (cm p l.t).length = l.t.length := List.length_map ..
  rw [List.length_append];omega
 ·rcases List.mem_append.1 hm with hm | hm
  ·exact h4 m hm
  ·exact mK hp1 hp l4 m hm
theorem g0 : ∀ (t : List Tm) (last : Int) (m : Tm),cC last (t ++ [m]) = (cC last t && fQ ((t.getLast?.map (·.1)).getD last) m)
 | [],last,m => by simp [cC]
 | a :: r,last,m => by
  rw [List.cons_append,cC,cC,g0 r a.1 m,Bool.and_assoc]
  cases r with
  | nil => rfl
  | cons b s => rw [List.getLast?_cons_cons];simp [List.getLast?_eq_some_getLast]
end Go.Proofs.YtiiaokjgbjhfhaaGreatDoor
namespace Go.Proofs.YtiiaokjgbjhfhaaGreatDoor
set_option linter.unusedSimpArgs false
set_option linter.unusedVariables false
def eq (u : Int → Int) : List Tm → Int
 | [] => 0
 | m :: r => m.2 * u m.1 + eq u r
def kI (u : Int → Int) (l : Ln) : Int := l.c + eq u l.t
theorem kJ (u : Int → Int) : ∀ a b : List Tm,eq u (a ++ b) = eq u a + eq u b
 | [],b => by simp [eq]
 | m :: r,b => by rw [List.cons_append,eq,eq,kJ u r b];omega
theorem iU (u : Int → Int) (p : Int) : ∀ t : List Tm,eq u (cm p t) = p * eq u t
 | [] => by simp [cm,eq]
 | m :: r => by
  have := iU u p r
  unfold cm at *
  rw [List.map_cons,eq,eq,this,Int.mul_add,Int.mul_assoc]
end Go.Proofs.YtiiaokjgbjhfhaaGreatDoor

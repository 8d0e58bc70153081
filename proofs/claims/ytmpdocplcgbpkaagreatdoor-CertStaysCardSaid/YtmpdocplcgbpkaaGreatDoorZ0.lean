/- Cut: lines that follow, as functions; the code's way (a map) and the document's (the next variable, again and again) are one. No program is in sight. Cut: how great sums can be; what is told is sound. No program is in sight. -/
import Derived.Test.YtmpdocplcgbpkaaGreatDoorRows
namespace Go.Proofs.YtmpdocplcgbpkaaGreatDoor
set_option linter.unusedSimpArgs false
set_option linter.unusedVariables false
abbrev Tm := Int × Int
structure Ln where
 c : Int
 t : List Tm
structure Stp where
 parts : List Tm
 div : Int
def dc (k : Int) : Bool := decide (-1073741824 ≤ k) && decide (k ≤ 1073741824)
def ku (v : Int) : Bool := decide (0 ≤ v) && decide (v < 1048576)
def jE (last : Int) (m : Tm) : Bool := ku m.1 && (dc m.2 && (!decide (m.2 = 0) && decide (last < m.1)))
def db : Int → List Tm → Bool
 | _,[] => true
 | last,m :: r => jE last m && db m.1 r
def dg (l : Ln) : Bool := dc l.c && (decide (l.t.length ≤ 64) && db (-1) l.t)
def fp : List Tm → Int → Int
 | [],_ => 0
 | m :: r,v => (if m.1 = v then m.2 else 0) + fp r v
def c4 (p : Int) (t : List Tm) : List Tm := t.map fun m => (m.1,p * m.2)
theorem p6 : ∀ (a b : List Tm) (v : Int),fp (a ++ b) v = fp a v + fp b v
 | [],b,v => by simp [fp]
 | m :: r,b,v => by rw [List.cons_append,fp,fp,p6 r b v];omega
def iW : List Tm → Int → Int
 | [],_ => 0
 | m :: r,v => if m.1 = v then m.2 else iW r v
def ll : List Tm → Int → Int → List Tm
 | [],v,x => [(v,x)]
 | m :: r,v,x => if m.1 = v then (m.1,x) :: r else m :: ll r v x
def jU (M : List Tm) (m : Tm) : List Tm := ll M m.1 (iW M m.1 + m.2)
theorem pf : ∀ (M : List Tm) (v x u : Int),iW (ll M v x) u = if v = u then x else iW M u
 | [],v,x,u => by simp [ll,iW]
 | m :: r,v,x,u => by
  unfold ll
  by_cases h : m.1 = v
  ·rw [if_pos h]
   unfold iW
   by_cases h2 : m.1 = u
   ·rw [if_pos h2,if_pos (by omega)]
   ·rw [if_neg h2,if_neg (by omega),if_neg h2]
  ·rw [if_neg h]
   unfold iW
   by_cases h2 : m.1 = u
   ·rw [if_pos h2,if_neg (by omega),if_pos h2]
   ·rw [if_neg h2,pf r v x u,if_neg h2]
theorem lX : ∀ (M : List Tm) (v x : Int),(ll M v x).map (·.1) = if v ∈ M.map (·.1) then M.map (·.1) else M.map (·.1) ++ [v]
 | [],v,x => by simp [ll]
 | m :: r,v,x => by
  unfold ll
  by_cases h : m.1 = v
  ·rw [if_pos h,if_pos (by simp [h])];rfl
  ·have h' : ¬ v = m.1 := fun e => h e.symm
   rw [if_neg h,List.map_cons,lX r v x]
   by_cases h2 : v ∈ r.map (·.1)
   ·rw [if_pos h2,if_pos (by rw [List.map_cons];exact List.mem_cons_of_mem _ h2)];rfl
   ·rw [if_neg h2,if_neg (by rw [List.map_cons,List.mem_cons];exact fun e => e.elim h' h2)];rfl
structure MapOf (M ts : List Tm) : Prop where
 get : ∀ v,iW M v = fp ts v
 key : ∀ v,v ∈ M.map (·.1) ↔ v ∈ ts.map (·.1)
 nd : (M.map (·.1)).Nodup
theorem s5 : MapOf [] [] := ⟨fun v => rfl,fun v => Iff.rfl,List.nodup_nil⟩
theorem MapOf.add {M ts : List Tm} (h : MapOf M ts) (m : Tm) : MapOf (jU M m) (ts ++ [m]) := by
 refine ⟨fun v => ?_,fun v => ?_,?_⟩
 ·unfold jU
  rw [pf,p6]
  simp only [fp]
  by_cases hv : m.1 = v
  ·subst hv;rw [if_pos rfl,if_pos rfl,h.get];omega
  ·rw [if_neg hv,if_neg hv,h.get];omega
 ·unfold jU
  rw [lX]
  by_cases hm : m.1 ∈ M.map (·.1)
  ·rw [if_pos hm,h.key,List.map_append,List.mem_append]
   constructor
   ·exact .inl
   ·rintro (hv | hv)
    ·exact hv
    ·simp at hv;subst hv;exact (h.key _).1 hm
  ·rw [if_neg hm,List.map_append,List.mem_append,List.mem_append,h.key]
   simp
 ·unfold jU
  rw [lX]
  by_cases hm : m.1 ∈ M.map (·.1)
  ·rw [if_pos hm];exact h.nd
  ·rw [if_neg hm]
   exact List.nodup_append.2 ⟨h.nd,by simp,fun x hx y hy => by simp at hy;subst hy;intro e;exact hm (e ▸ hx)⟩
theorem MapOf.addAll {M ts : List Tm} (h : MapOf M ts) : ∀ l : List Tm,MapOf (l.foldl jU M) (ts ++ l)
 | [] => by rw [List.append_nil];exact h
 | m :: r => by
  have := (h.add m).addAll r
  rw [List.append_assoc] at this
  exact this
abbrev jT (l : List Int) : Prop := l.Pairwise (· < ·)
theorem jC : ∀ {a b : List Int},jT a → jT b → (∀ x,x ∈ a ↔ x ∈ b) → a = b
 | [],[],_,_,_ => rfl
 | [],y :: b,_,_,h => absurd ((h y).2 (by simp)) (by simp)
 | x :: a,[],_,_,h => absurd ((h x).1 (by simp)) (by simp)
 | x :: a,y :: b,ha,hb,h => by
  have ha := List.pairwise_cons.1 ha
  have hb := List.pairwise_cons.1 hb
  have hxy : x = y := by
   have h1 := (h x).1 (by simp)
   have h2 := (h y).2 (by simp)
   rcases List.mem_cons.1 h1 with e | h1
   ·exact e
   ·rcases List.mem_cons.1 h2 with e | h2
    ·exact e.symm
    ·have := ha.1 y h2
     have := hb.1 x h1
     omega
  subst hxy
  have : a = b := jC ha.2 hb.2 fun z => by
   have hz := h z
   simp only [List.mem_cons] at hz
   constructor
   ·intro hza
    rcases hz.1 (.inr hza) with e | e
    ·subst e;have := ha.1 z hza;omega
    ·exact e
   ·intro hzb
    rcases hz.2 (.inr hzb) with e | e
    ·subst e;have := hb.1 z hzb;omega
    ·exact e
  rw [this]
def km (l : List Int) : List Int := l.mergeSort fun x y => decide (x ≤ y)
theorem pW (l : List Int) (x : Int) : x ∈ km l ↔ x ∈ l := by unfold km;exact List.mem_mergeSort
theorem lc {l : List Int} (h : l.Nodup) : jT (km l) := by
 have h1 : (km l).Pairwise (fun x y => decide (x ≤ y) = true) := List.pairwise_mergeSort (le := fun x y => decide (x ≤ y)) (by intro a b c;simp;omega) (by intro a b;simp;omega) l
 have h2 : (km l).Nodup := (List.mergeSort_perm l _).nodup_iff.2 h
 have h3 := h1.and h2
 exact h3.imp fun ⟨ha,hb⟩ => by simp at ha;omega
def kc : List Tm → List Int
 | [] => []
 | m :: r => if m.1 ∈ kc r then kc r else m.1 :: kc r
theorem m5 : ∀ (ts : List Tm) (v : Int),v ∈ kc ts ↔ v ∈ ts.map (·.1)
 | [],v => by simp [kc]
 | m :: r,v => by
  have ih := m5 r
  unfold kc
  rw [List.map_cons,List.mem_cons]
  split
  ·rename_i h
   rw [ih v]
   constructor
   ·exact .inr
   ·rintro (e | e)
    ·subst e;exact (ih _).1 h
    ·exact e
  ·rw [List.mem_cons,ih v]
theorem lW : ∀ ts : List Tm,(kc ts).Nodup
 | [] => List.nodup_nil
 | m :: r => by
  unfold kc
  split
  ·exact lW r
  ·rename_i h;exact List.nodup_cons.2 ⟨h,lW r⟩
def f9 (ts : List Tm) : List Int := km (kc ts)
theorem nA (ts : List Tm) (v : Int) : v ∈ f9 ts ↔ v ∈ ts.map (·.1) := by unfold f9;rw [pW,m5]
theorem kv (ts : List Tm) : jT (f9 ts) := lc (lW ts)
theorem MapOf.sorted {M ts : List Tm} (h : MapOf M ts) : km (M.map (·.1)) = f9 ts :=
 jC (lc h.nd) (kv ts) fun x => by rw [pW,h.key,nA]
def ju (k : Int) : Bool := decide (k < -4398046511104) || decide (4398046511104 < k)
def upZ (a g : Int) : Int := a.tdiv g + (if 0 < a.tmod g then 1 else 0)
def fB (ts : List Tm) (div : Int) : List Int → List Tm
 | [] => []
 | v :: r => if fp ts v = 0 then fB ts div r else (v,(fp ts v).tdiv div) :: fB ts div r
def ic (ts : List Tm) (vs : List Int) : Bool := vs.any fun v => ju (fp ts v)
def eU (ts : List Tm) (div : Int) (vs : List Int) : Bool := vs.any fun v => !decide ((fp ts v).tmod div = 0)
def dG (c : Int) (ts : List Tm) (div : Int) : Nat × Ln :=
 if div < 1 ∨ 1073741824 < div then (1,⟨0,[]⟩)
 else if ju c || ic ts (f9 ts) then (3,⟨0,[]⟩)
 else if eU ts div (f9 ts) then (7,⟨0,[]⟩)
 else if !dc (upZ c div) || (fB ts div (f9 ts)).any (fun m => !dc m.2) then (3,⟨0,[]⟩)
 else if 64 < (fB ts div (f9 ts)).length then (2,⟨0,[]⟩)
 else (0,⟨upZ c div,fB ts div (f9 ts)⟩)
def fC (ls : List Ln) : List Tm → Int → List Tm → Nat × Int × List Tm
 | [],c,ts => (0,c,ts)
 | p :: r,c,ts => if p.1 < 0 ∨ (ls.length : Int) ≤ p.1 then (6,0,[]) else if p.2 < 1 ∨ 4096 < p.2 then (1,0,[])
  else fC ls r (c + p.2 * (ls.getD p.1.toNat ⟨0,[]⟩).c) (ts ++ c4 p.2 (ls.getD p.1.toNat ⟨0,[]⟩).t)
def fR (ls : List Ln) (s : Stp) : Nat × Ln :=
 if 64 < s.parts.length then (2,⟨0,[]⟩) else
 let q := fC ls s.parts 0 []
 if q.1 = 0 then dG q.2.1 q.2.2 s.div else (q.1,⟨0,[]⟩)
def dZ : List Stp → Nat → List Ln → Nat × Int × List Ln
 | [],_,ls => (0,-1,ls)
 | s :: r,i,ls => if (fR ls s).1 = 0 then dZ r (i + 1) (ls ++ [(fR ls s).2]) else ((fR ls s).1,i,[])
def fg : List Ln → Nat → Option Nat
 | [],_ => none
 | l :: r,i => if dg l then fg r (i + 1) else some i
def dT (ps : List Ln) (ss : List Stp) : Nat × Int × List Ln :=
 if 4096 < ps.length ∨ 4096 < ss.length then (2,-1,[]) else
 match fg ps 0 with
 | some i => (5,i,[])
 | none => dZ ss 0 ps
def i9 (ps : List Ln) (ss : List Stp) : Nat × Int :=
 let q := dT ps ss
 if q.1 = 0 then (if q.2.2.any (fun l => l.t.isEmpty && decide (0 < l.c)) then (0,-1) else (8,-1)) else (q.1,q.2.1)
end Go.Proofs.YtmpdocplcgbpkaaGreatDoor
namespace Go.Proofs.YtmpdocplcgbpkaaGreatDoor
set_option linter.unusedSimpArgs false
set_option linter.unusedVariables false
def sC (b : Int) (m : Tm) : Prop := 0 ≤ m.1 ∧ m.1 < 1048576 ∧ -b ≤ m.2 ∧ m.2 ≤ b
theorem coefB_iff {k : Int} : dc k = true ↔ -1073741824 ≤ k ∧ k ≤ 1073741824 := by unfold dc;simp
theorem fI : ∀ (last : Int) (t : List Tm),db last t = true → ∀ m ∈ t,sC 1073741824 m ∧ m.2 ≠ 0 ∧ last < m.1
 | _,[],_ => fun m hm => absurd hm List.not_mem_nil
 | last,a :: r,h => fun m hm => by
  rw [db,Bool.and_eq_true] at h
  obtain ⟨h1,h2⟩ := h
  unfold jE ku dc at h1
  simp only [Bool.and_eq_true,decide_eq_true_eq,Bool.not_eq_true',decide_eq_false_iff_not] at h1
  rcases List.mem_cons.1 hm with rfl | hm
  ·exact ⟨⟨h1.1.1,h1.1.2,h1.2.1.1,h1.2.1.2⟩,h1.2.2.1,h1.2.2.2⟩
  ·obtain ⟨a1,a2,a3⟩ := fI a.1 r h2 m hm
   exact ⟨a1,a2,by omega⟩
theorem fi {l : Ln} (h : dg l = true) : (-1073741824 ≤ l.c ∧ l.c ≤ 1073741824) ∧ l.t.length ≤ 64 ∧ ∀ m ∈ l.t,sC 1073741824 m := by
 unfold dg at h
 simp only [Bool.and_eq_true,decide_eq_true_eq] at h
 exact ⟨coefB_iff.1 h.1,h.2.1,fun m hm => (fI _ _ h.2.2 m hm).1⟩
theorem oE (b : Int) (hb : 0 ≤ b) : ∀ (ts : List Tm) (v : Int),(∀ m ∈ ts,sC b m) → -(ts.length * b) ≤ fp ts v ∧ fp ts v ≤ ts.length * b
 | [],v,_ => by simp [fp]
 | m :: r,v,h => by
  obtain ⟨h1,h2,h3,h4⟩ := h m (by simp)
  have ih := oE b hb r v fun x hx => h x (List.mem_cons_of_mem _ hx)
  rw [fp,List.length_cons,Int.natCast_add,Int.add_mul]
  split <;> omega
theorem ol {p k : Int} (hp1 : 1 ≤ p) (hp : p ≤ 4096) (h1 : -1073741824 ≤ k) (h2 : k ≤ 1073741824) : -4398046511104 ≤ p * k ∧ p * k ≤ 4398046511104 := by
 have a1 : p * k ≤ p * 1073741824 := Int.mul_le_mul_of_nonneg_left h2 (by omega)
 have a2 : p * (-1073741824) ≤ p * k := Int.mul_le_mul_of_nonneg_left h1 (by omega)
 omega
theorem tB {p : Int} (hp1 : 1 ≤ p) (hp : p ≤ 4096) {t : List Tm} (h : ∀ m ∈ t,sC 1073741824 m) : ∀ m ∈ c4 p t,sC 4398046511104 m := fun m hm => by
 obtain ⟨x,hx,rfl⟩ := List.mem_map.1 hm
 obtain ⟨h1,h2,h3,h4⟩ := h x hx
 obtain ⟨a1,a2⟩ := ol hp1 hp h3 h4
 exact ⟨h1,h2,a1,a2⟩
structure PrOk (n : Nat) (c : Int) (ts : List Tm) : Prop where
 c1 : -(n * 4398046511104) ≤ c
 c2 : c ≤ n * 4398046511104
 len : ts.length ≤ n * 64
 ok : ∀ m ∈ ts,sC 4398046511104 m
theorem py : PrOk 0 0 [] := ⟨by decide,by decide,Nat.zero_le _,fun m hm => absurd hm List.not_mem_nil⟩
theorem PrOk.add {n : Nat} {c : Int} {ts : List Tm} (h : PrOk n c ts) {l : Ln} (hl : dg l = true) {p : Int} (hp1 : 1 ≤ p) (hp : p ≤ 4096) : PrOk (n + 1) (c + p * l.c) (ts ++ c4 p l.t) := by
 obtain ⟨⟨l1,l2⟩,l3,l4⟩ := fi hl
 obtain ⟨a1,a2⟩ := ol hp1 hp l1 l2
 obtain ⟨h1,h2,h3,h4⟩ := h
 refine ⟨by omega,by omega,?_,fun m hm => ?_⟩
 ·have : (c4 p l.t).length = l.t.length := List.length_map ..
  rw [List.length_append];omega
 ·rcases List.mem_append.1 hm with hm | hm
  ·exact h4 m hm
  ·exact tB hp1 hp l4 m hm
theorem nj {ls : List Ln} (hls : ∀ l ∈ ls,dg l = true) : ∀ (p : List Tm) (n : Nat) (c : Int) (ts : List Tm),PrOk n c ts → (fC ls p c ts).1 = 0 → PrOk (n + p.length) (fC ls p c ts).2.1 (fC ls p c ts).2.2
 | [],n,c,ts,h,_ => h
 | p :: r,n,c,ts,h,e => by
  unfold fC at e ⊢
  split at e
  ·cases e
  rename_i h1
  split at e
  ·cases e
  rename_i h2
  rw [if_neg h1,if_neg h2]
  have hlt : p.1.toNat < ls.length := by omega
  have hg : ls.getD p.1.toNat ⟨0,[]⟩ = ls[p.1.toNat] := by rw [List.getD_eq_getElem?_getD,List.getElem?_eq_getElem hlt];rfl
  rw [hg] at e ⊢
  have := nj hls r (n + 1) _ _ (h.add (hls _ (List.getElem_mem hlt)) (by omega) (by omega)) e
  rw [List.length_cons]
  rw [show n + (r.length + 1) = n + 1 + r.length by omega]
  exact this
theorem xA {a b : Int} (h : a.tmod b = 0) (ha : a ≠ 0) : a.tdiv b ≠ 0 := fun e => by
 have := Int.mul_tdiv_add_tmod a b
 rw [h,e] at this
 simp at this
 exact ha this.symm
theorem i8 (ts : List Tm) (div : Int) : ∀ (vs : List Int) (last : Int),jT vs → (∀ v ∈ vs,last < v ∧ 0 ≤ v ∧ v < 1048576) → eU ts div vs = false → (fB ts div vs).any (fun m => !dc m.2) = false → db last (fB ts div vs) = true
 | [],_,_,_,_,_ => rfl
 | v :: r,last,hs,hv,hr,hc => by
  obtain ⟨h1,h2⟩ := List.pairwise_cons.1 hs
  unfold eU at hr
  rw [List.any_cons,Bool.or_eq_false_iff] at hr
  obtain ⟨q1,q2,q3⟩ := hv v (by simp)
  have hd : (fp ts v).tmod div = 0 := by simpa using hr.1
  unfold fB at hc ⊢
  by_cases h0 : fp ts v = 0
  ·rw [if_pos h0] at hc ⊢
   exact i8 ts div r last h2 (fun x hx => hv x (List.mem_cons_of_mem _ hx)) hr.2 hc
  ·rw [if_neg h0] at hc ⊢
   rw [List.any_cons,Bool.or_eq_false_iff] at hc
   have ih := i8 ts div r v h2 (fun x hx => ⟨h1 x hx,(hv x (List.mem_cons_of_mem _ hx)).2⟩) hr.2 hc.2
   have hk := xA hd h0
   rw [db,ih,Bool.and_true]
   unfold jE ku
   simp only [Bool.and_eq_true,decide_eq_true_eq,Bool.not_eq_true',decide_eq_false_iff_not]
   exact ⟨⟨q2,q3⟩,by simpa using hc.1,hk,q1⟩
theorem nO {c : Int} {ts : List Tm} {div : Int} {l : Ln} (hts : ∀ m ∈ ts,0 ≤ m.1 ∧ m.1 < 1048576) (h : dG c ts div = (0,l)) : dg l = true := by
 unfold dG at h
 split at h
 ·cases h
 split at h
 ·cases h
 split at h
 ·cases h
 rename_i hr
 split at h
 ·cases h
 rename_i hc
 split at h
 ·cases h
 rename_i hl
 cases h
 have hr' : eU ts div (f9 ts) = false := by simpa using hr
 rw [Bool.not_eq_true,Bool.or_eq_false_iff] at hc
 have h1 := i8 ts div (f9 ts) (-1) (kv ts) (fun v hv => by
  obtain ⟨m,hm,rfl⟩ := List.mem_map.1 ((nA ts v).1 hv)
  have := hts m hm
  omega) hr' hc.2
 unfold dg
 simp only [Bool.and_eq_true,decide_eq_true_eq]
 exact ⟨by simpa using hc.1,by omega,h1⟩
theorem tx {ls : List Ln} (hls : ∀ l ∈ ls,dg l = true) {s : Stp} (h : (fR ls s).1 = 0) : dg (fR ls s).2 = true := by
 unfold fR at h ⊢
 split at h
 ·cases h
 rename_i hl
 rw [if_neg hl]
 dsimp only at h ⊢
 split at h
 ·rename_i h0
  rw [if_pos h0]
  have hp := nj hls s.parts 0 0 [] py h0
  generalize fC ls s.parts 0 [] = q at *
  have e2 : dG q.2.1 q.2.2 s.div = (0,(dG q.2.1 q.2.2 s.div).2) := by rw [← h]
  exact nO (fun m hm => ⟨(hp.ok m hm).1,(hp.ok m hm).2.1⟩) e2
 ·rename_i h0;exact absurd h h0
theorem ld : ∀ (t : List Tm) (last : Int) (m : Tm),db last (t ++ [m]) = (db last t && jE ((t.getLast?.map (·.1)).getD last) m)
 | [],last,m => by simp [db]
 | a :: r,last,m => by
  rw [List.cons_append,db,db,ld r a.1 m,Bool.and_assoc]
  cases r with
  | nil => rfl
  | cons b s => rw [List.getLast?_cons_cons];simp [List.getLast?_eq_some_getLast]
end Go.Proofs.YtmpdocplcgbpkaaGreatDoor

/- Cut: lines that follow, as functions; the code's way (a map) and the document's (the next variable, again and again) are one. No program is in sight. Cut: how great sums can be; what is told is sound. No program is in sight. -/
import Derived.Test.YtmpdocplcgbpkaaGreatDoorRows
namespace Go.Proofs.YtmpdocplcgbpkaaGreatDoor
set_option linter.unusedSimpArgs false
set_option linter.unusedVariables false
abbrev Tm:=Int × Int
structure Ln where
 c : Int
 t : List Tm
structure Stp where
 parts : List Tm
 div : Int
def cX (k : Int) : Bool:=decide (-1073741824≤k) && decide (k≤1073741824)
def kT (v : Int) : Bool:=decide (0≤v) && decide (v < 1048576)
def jY (last : Int) (m : Tm) : Bool:=kT m.1 && (cX m.2 && (!decide (m.2 = 0) && decide (last < m.1)))
def cU : Int→List Tm→Bool
 | _,[]=>true
 | last,m :: r=>jY last m && cU m.1 r
def cY (l : Ln) : Bool:=cX l.c && (decide (l.t.length≤64) && cU (-1) l.t)
def d9 : List Tm→Int→Int
 | [],_=>0
 | m :: r,v=>(if m.1 = v then m.2 else 0) + d9 r v
def cz (p : Int) (t : List Tm) : List Tm:=t.map fun m=>(m.1,p * m.2)
theorem re : ∀ (a b : List Tm) (v : Int),d9 (a ++ b) v = d9 a v + d9 b v
 | [],b,v=>by simp [d9]
 | m :: r,b,v=>by rw [List.cons_append,d9,d9,re r b v];omega
def jk : List Tm→Int→Int
 | [],_=>0
 | m :: r,v=>if m.1 = v then m.2 else jk r v
def lS : List Tm→Int→Int→List Tm
 | [],v,x=>[(v,x)]
 | m :: r,v,x=>if m.1 = v then (m.1,x) :: r else m :: lS r v x
def km (M : List Tm) (m : Tm) : List Tm:=lS M m.1 (jk M m.1 + m.2)
theorem qp : ∀ (M : List Tm) (v x u : Int),jk (lS M v x) u = if v = u then x else jk M u
 | [],v,x,u=>by simp [lS,jk]
 | m :: r,v,x,u=>by
  unfold lS
  by_cases h : m.1 = v
  ·rw [if_pos h]
   unfold jk
   by_cases h2 : m.1 = u
   ·rw [if_pos h2,if_pos (by omega)]
   ·rw [if_neg h2,if_neg (by omega),if_neg h2]
  ·rw [if_neg h]
   unfold jk
   by_cases h2 : m.1 = u
   ·rw [if_pos h2,if_neg (by omega),if_pos h2]
   ·rw [if_neg h2,qp r v x u,if_neg h2]
theorem mB : ∀ (M : List Tm) (v x : Int),(lS M v x).map (·.1) = if v ∈ M.map (·.1) then M.map (·.1) else M.map (·.1) ++ [v]
 | [],v,x=>by simp [lS]
 | m :: r,v,x=>by
  unfold lS
  by_cases h : m.1 = v
  ·rw [if_pos h,if_pos (by simp [h])];rfl
  ·have h' : ¬ v = m.1:=fun e=>h e.symm
   rw [if_neg h,List.map_cons,mB r v x]
   by_cases h2 : v ∈ r.map (·.1)
   ·rw [if_pos h2,if_pos (by rw [List.map_cons];exact List.mem_cons_of_mem _ h2)];rfl
   ·rw [if_neg h2,if_neg (by rw [List.map_cons,List.mem_cons];exact fun e=>e.elim h' h2)];rfl
structure MapOf (M ts : List Tm) : Prop where
 get : ∀ v,jk M v = d9 ts v
 key : ∀ v,v ∈ M.map (·.1) ↔ v ∈ ts.map (·.1)
 nd : (M.map (·.1)).Nodup
theorem uL : MapOf [] []:=⟨fun v=>rfl,fun v=>Iff.rfl,List.nodup_nil⟩
theorem MapOf.add {M ts : List Tm} (h : MapOf M ts) (m : Tm) : MapOf (km M m) (ts ++ [m]):=by
 refine ⟨fun v=>?_,fun v=>?_,?_⟩
 ·unfold km
  rw [qp,re]
  simp only [d9]
  by_cases hv : m.1 = v
  ·subst hv;rw [if_pos rfl,if_pos rfl,h.get];omega
  ·rw [if_neg hv,if_neg hv,h.get];omega
 ·unfold km
  rw [mB]
  by_cases hm : m.1 ∈ M.map (·.1)
  ·rw [if_pos hm,h.key,List.map_append,List.mem_append]
   constructor
   ·exact .inl
   ·rintro (hv | hv)
    ·exact hv
    ·simp at hv;subst hv;exact (h.key _).1 hm
  ·rw [if_neg hm,List.map_append,List.mem_append,List.mem_append,h.key]
   simp
 ·unfold km
  rw [mB]
  by_cases hm : m.1 ∈ M.map (·.1)
  ·rw [if_pos hm];exact h.nd
  ·rw [if_neg hm]
   exact List.nodup_append.2 ⟨h.nd,by simp,fun x hx y hy=>by simp at hy;subst hy;intro e;exact hm (e ▸ hx)⟩
theorem MapOf.addAll {M ts : List Tm} (h : MapOf M ts) : ∀ l : List Tm,MapOf (l.foldl km M) (ts ++ l)
 | []=>by rw [List.append_nil];exact h
 | m :: r=>by
  have:=(h.add m).addAll r
  rw [List.append_assoc] at this
  exact this
abbrev kl (l : List Int) : Prop:=l.Pairwise (· < ·)
theorem jX : ∀ {a b : List Int},kl a→kl b→(∀ x,x ∈ a ↔ x ∈ b)→a = b
 | [],[],_,_,_=>rfl
 | [],y :: b,_,_,h=>absurd ((h y).2 (by simp)) (by simp)
 | x :: a,[],_,_,h=>absurd ((h x).1 (by simp)) (by simp)
 | x :: a,y :: b,ha,hb,h=>by
  have ha:=List.pairwise_cons.1 ha
  have hb:=List.pairwise_cons.1 hb
  have hxy : x = y:=by
   have h1:=(h x).1 (by simp)
   have h2:=(h y).2 (by simp)
   rcases List.mem_cons.1 h1 with e | h1
   ·exact e
   ·rcases List.mem_cons.1 h2 with e | h2
    ·exact e.symm
    ·have:=ha.1 y h2
     have:=hb.1 x h1
     omega
  subst hxy
  have : a = b:=jX ha.2 hb.2 fun z=>by
   have hz:=h z
   simp only [List.mem_cons] at hz
   constructor
   ·intro hza
    rcases hz.1 (.inr hza) with e | e
    ·subst e;have:=ha.1 z hza;omega
    ·exact e
   ·intro hzb
    rcases hz.2 (.inr hzb) with e | e
    ·subst e;have:=hb.1 z hzb;omega
    ·exact e
  rw [this]
def kM (l : List Int) : List Int:=l.mergeSort fun x y=>decide (x≤y)
theorem qZ (l : List Int) (x : Int) : x ∈ kM l ↔ x ∈ l:=by unfold kM;exact List.mem_mergeSort
theorem lK {l : List Int} (h : l.Nodup) : kl (kM l):=by
 have h1 : (kM l).Pairwise (fun x y=>decide (x≤y) = true):=List.pairwise_mergeSort (le:=fun x y=>decide (x≤y)) (by intro a b c;simp;omega) (by intro a b;simp;omega) l
 have h2 : (kM l).Nodup:=(List.mergeSort_perm l _).nodup_iff.2 h
 have h3:=h1.and h2
 exact h3.imp fun ⟨ha,hb⟩=>by simp at ha;omega
def kE : List Tm→List Int
 | []=>[]
 | m :: r=>if m.1 ∈ kE r then kE r else m.1 :: kE r
theorem nU : ∀ (ts : List Tm) (v : Int),v ∈ kE ts ↔ v ∈ ts.map (·.1)
 | [],v=>by simp [kE]
 | m :: r,v=>by
  have ih:=nU r
  unfold kE
  rw [List.map_cons,List.mem_cons]
  split
  ·rename_i h
   rw [ih v]
   constructor
   ·exact .inr
   ·rintro (e | e)
    ·subst e;exact (ih _).1 h
    ·exact e
  ·rw [List.mem_cons,ih v]
theorem mA : ∀ ts : List Tm,(kE ts).Nodup
 | []=>List.nodup_nil
 | m :: r=>by
  unfold kE
  split
  ·exact mA r
  ·rename_i h;exact List.nodup_cons.2 ⟨h,mA r⟩
def fw (ts : List Tm) : List Int:=kM (kE ts)
theorem lq (ts : List Tm) (v : Int) : v ∈ fw ts ↔ v ∈ ts.map (·.1):=by unfold fw;rw [qZ,nU]
theorem i3 (ts : List Tm) : kl (fw ts):=lK (mA ts)
theorem MapOf.sorted {M ts : List Tm} (h : MapOf M ts) : kM (M.map (·.1)) = fw ts :=
 jX (lK h.nd) (i3 ts) fun x=>by rw [qZ,h.key,lq]
def jR (k : Int) : Bool:=decide (k < -4398046511104) || decide (4398046511104 < k)
def upZ (a g : Int) : Int:=a.tdiv g + (if 0 < a.tmod g then 1 else 0)
def fa (ts : List Tm) (div : Int) : List Int→List Tm
 | []=>[]
 | v :: r=>if d9 ts v = 0 then fa ts div r else (v,(d9 ts v).tdiv div) :: fa ts div r
def iB (ts : List Tm) (vs : List Int) : Bool:=vs.any fun v=>jR (d9 ts v)
def dZ (ts : List Tm) (div : Int) (vs : List Int) : Bool:=vs.any fun v=>!decide ((d9 ts v).tmod div = 0)
def da (c : Int) (ts : List Tm) (div : Int) : Nat × Ln :=
 if div < 1∨1073741824 < div then (1,⟨0,[]⟩)
 else if jR c || iB ts (fw ts) then (3,⟨0,[]⟩)
 else if dZ ts div (fw ts) then (7,⟨0,[]⟩)
 else if !cX (upZ c div) || (fa ts div (fw ts)).any (fun m=>!cX m.2) then (3,⟨0,[]⟩)
 else if 64 < (fa ts div (fw ts)).length then (2,⟨0,[]⟩)
 else (0,⟨upZ c div,fa ts div (fw ts)⟩)
def d5 (ls : List Ln) : List Tm→Int→List Tm→Nat × Int × List Tm
 | [],c,ts=>(0,c,ts)
 | p :: r,c,ts=>if p.1 < 0∨(ls.length : Int)≤p.1 then (6,0,[]) else if p.2 < 1∨4096 < p.2 then (1,0,[])
  else d5 ls r (c + p.2 * (ls.getD p.1.toNat ⟨0,[]⟩).c) (ts ++ cz p.2 (ls.getD p.1.toNat ⟨0,[]⟩).t)
def fb (ls : List Ln) (s : Stp) : Nat × Ln :=
 if 64 < s.parts.length then (2,⟨0,[]⟩) else
 let q:=d5 ls s.parts 0 []
 if q.1 = 0 then da q.2.1 q.2.2 s.div else (q.1,⟨0,[]⟩)
def dw : List Stp→Nat→List Ln→Nat × Int × List Ln
 | [],_,ls=>(0,-1,ls)
 | s :: r,i,ls=>if (fb ls s).1 = 0 then dw r (i + 1) (ls ++ [(fb ls s).2]) else ((fb ls s).1,i,[])
def fy : List Ln→Nat→Option Nat
 | [],_=>none
 | l :: r,i=>if cY l then fy r (i + 1) else some i
def dj (ps : List Ln) (ss : List Stp) : Nat × Int × List Ln :=
 if 4096 < ps.length∨4096 < ss.length then (2,-1,[]) else
 match fy ps 0 with
 | some i=>(5,i,[])
 | none=>dw ss 0 ps
def gf (ps : List Ln) (ss : List Stp) : Nat × Int :=
 let q:=dj ps ss
 if q.1 = 0 then (if q.2.2.any (fun l=>l.t.isEmpty && decide (0 < l.c)) then (0,-1) else (8,-1)) else (q.1,q.2.1)
end Go.Proofs.YtmpdocplcgbpkaaGreatDoor
namespace Go.Proofs.YtmpdocplcgbpkaaGreatDoor
set_option linter.unusedSimpArgs false
set_option linter.unusedVariables false
def ud (b : Int) (m : Tm) : Prop:=0≤m.1∧m.1 < 1048576∧-b≤m.2∧m.2≤b
theorem coefB_iff {k : Int} : cX k = true ↔ -1073741824≤k∧k≤1073741824:=by unfold cX;simp
theorem fv : ∀ (last : Int) (t : List Tm),cU last t = true→∀ m ∈ t,ud 1073741824 m∧m.2 ≠ 0∧last < m.1
 | _,[],_=>fun m hm=>absurd hm List.not_mem_nil
 | last,a :: r,h=>fun m hm=>by
  rw [cU,Bool.and_eq_true] at h
  obtain ⟨h1,h2⟩:=h
  unfold jY kT cX at h1
  simp only [Bool.and_eq_true,decide_eq_true_eq,Bool.not_eq_true',decide_eq_false_iff_not] at h1
  rcases List.mem_cons.1 hm with rfl | hm
  ·exact ⟨⟨h1.1.1,h1.1.2,h1.2.1.1,h1.2.1.2⟩,h1.2.2.1,h1.2.2.2⟩
  ·obtain ⟨a1,a2,a3⟩:=fv a.1 r h2 m hm
   exact ⟨a1,a2,by omega⟩
theorem ef {l : Ln} (h : cY l = true) : (-1073741824≤l.c∧l.c≤1073741824)∧l.t.length≤64∧∀ m ∈ l.t,ud 1073741824 m:=by
 unfold cY at h
 simp only [Bool.and_eq_true,decide_eq_true_eq] at h
 exact ⟨coefB_iff.1 h.1,h.2.1,fun m hm=>(fv _ _ h.2.2 m hm).1⟩
theorem pN (b : Int) (hb : 0≤b) : ∀ (ts : List Tm) (v : Int),(∀ m ∈ ts,ud b m)→-(ts.length * b)≤d9 ts v∧d9 ts v≤ts.length * b
 | [],v,_=>by simp [d9]
 | m :: r,v,h=>by
  obtain ⟨h1,h2,h3,h4⟩:=h m (by simp)
  have ih:=pN b hb r v fun x hx=>h x (List.mem_cons_of_mem _ hx)
  rw [d9,List.length_cons,Int.natCast_add,Int.add_mul]
  split <;> omega
theorem py {p k : Int} (hp1 : 1≤p) (hp : p≤4096) (h1 : -1073741824≤k) (h2 : k≤1073741824) : -4398046511104≤p * k∧p * k≤4398046511104:=by
 have a1 : p * k≤p * 1073741824:=Int.mul_le_mul_of_nonneg_left h2 (by omega)
 have a2 : p * (-1073741824)≤p * k:=Int.mul_le_mul_of_nonneg_left h1 (by omega)
 omega
theorem vo {p : Int} (hp1 : 1≤p) (hp : p≤4096) {t : List Tm} (h : ∀ m ∈ t,ud 1073741824 m) : ∀ m ∈ cz p t,ud 4398046511104 m:=fun m hm=>by
 obtain ⟨x,hx,rfl⟩:=List.mem_map.1 hm
 obtain ⟨h1,h2,h3,h4⟩:=h x hx
 obtain ⟨a1,a2⟩:=py hp1 hp h3 h4
 exact ⟨h1,h2,a1,a2⟩
structure PrOk (n : Nat) (c : Int) (ts : List Tm) : Prop where
 c1 : -(n * 4398046511104)≤c
 c2 : c≤n * 4398046511104
 len : ts.length≤n * 64
 ok : ∀ m ∈ ts,ud 4398046511104 m
theorem qF : PrOk 0 0 []:=⟨by decide,by decide,Nat.zero_le _,fun m hm=>absurd hm List.not_mem_nil⟩
theorem PrOk.add {n : Nat} {c : Int} {ts : List Tm} (h : PrOk n c ts) {l : Ln} (hl : cY l = true) {p : Int} (hp1 : 1≤p) (hp : p≤4096) : PrOk (n + 1) (c + p * l.c) (ts ++ cz p l.t):=by
 obtain ⟨⟨l1,l2⟩,l3,l4⟩:=ef hl
 obtain ⟨a1,a2⟩:=py hp1 hp l1 l2
 obtain ⟨h1,h2,h3,h4⟩:=h
 refine ⟨by omega,by omega,?_,fun m hm=>?_⟩
 ·have : (cz p l.t).length = l.t.length:=List.length_map ..
  rw [List.length_append];omega
 ·rcases List.mem_append.1 hm with hm | hm
  ·exact h4 m hm
  ·exact vo hp1 hp l4 m hm
theorem n9 {ls : List Ln} (hls : ∀ l ∈ ls,cY l = true) : ∀ (p : List Tm) (n : Nat) (c : Int) (ts : List Tm),PrOk n c ts→(d5 ls p c ts).1 = 0→PrOk (n + p.length) (d5 ls p c ts).2.1 (d5 ls p c ts).2.2
 | [],n,c,ts,h,_=>h
 | p :: r,n,c,ts,h,e=>by
  unfold d5 at e ⊢
  split at e
  ·cases e
  rename_i h1
  split at e
  ·cases e
  rename_i h2
  rw [if_neg h1,if_neg h2]
  have hlt : p.1.toNat < ls.length:=by omega
  have hg : ls.getD p.1.toNat ⟨0,[]⟩ = ls[p.1.toNat]:=by rw [List.getD_eq_getElem?_getD,List.getElem?_eq_getElem hlt];rfl
  rw [hg] at e ⊢
  have:=n9 hls r (n + 1) _ _ (h.add (hls _ (List.getElem_mem hlt)) (by omega) (by omega)) e
  rw [List.length_cons]
  rw [show n + (r.length + 1) = n + 1 + r.length by omega]
  exact this
theorem zB {a b : Int} (h : a.tmod b = 0) (ha : a ≠ 0) : a.tdiv b ≠ 0:=fun e=>by
 have:=Int.mul_tdiv_add_tmod a b
 rw [h,e] at this
 simp at this
 exact ha this.symm
theorem js (ts : List Tm) (div : Int) : ∀ (vs : List Int) (last : Int),kl vs→(∀ v ∈ vs,last < v∧0≤v∧v < 1048576)→dZ ts div vs = false→(fa ts div vs).any (fun m=>!cX m.2) = false→cU last (fa ts div vs) = true
 | [],_,_,_,_,_=>rfl
 | v :: r,last,hs,hv,hr,hc=>by
  obtain ⟨h1,h2⟩:=List.pairwise_cons.1 hs
  unfold dZ at hr
  rw [List.any_cons,Bool.or_eq_false_iff] at hr
  obtain ⟨q1,q2,q3⟩:=hv v (by simp)
  have hd : (d9 ts v).tmod div = 0:=by simpa using hr.1
  unfold fa at hc ⊢
  by_cases h0 : d9 ts v = 0
  ·rw [if_pos h0] at hc ⊢
   exact js ts div r last h2 (fun x hx=>hv x (List.mem_cons_of_mem _ hx)) hr.2 hc
  ·rw [if_neg h0] at hc ⊢
   rw [List.any_cons,Bool.or_eq_false_iff] at hc
   have ih:=js ts div r v h2 (fun x hx=>⟨h1 x hx,(hv x (List.mem_cons_of_mem _ hx)).2⟩) hr.2 hc.2
   have hk:=zB hd h0
   rw [cU,ih,Bool.and_true]
   unfold jY kT
   simp only [Bool.and_eq_true,decide_eq_true_eq,Bool.not_eq_true',decide_eq_false_iff_not]
   exact ⟨⟨q2,q3⟩,by simpa using hc.1,hk,q1⟩
theorem oV {c : Int} {ts : List Tm} {div : Int} {l : Ln} (hts : ∀ m ∈ ts,0≤m.1∧m.1 < 1048576) (h : da c ts div = (0,l)) : cY l = true:=by
 unfold da at h
 split at h
 ·cases h
 split at h
 ·cases h
 split at h
 ·cases h
 rename_i hr
 split at h
 ·cases h
 rename_i hc
 split at h
 ·cases h
 rename_i hl
 cases h
 have hr' : dZ ts div (fw ts) = false:=by simpa using hr
 rw [Bool.not_eq_true,Bool.or_eq_false_iff] at hc
 have h1:=js ts div (fw ts) (-1) (i3 ts) (fun v hv=>by
  obtain ⟨m,hm,rfl⟩:=List.mem_map.1 ((lq ts v).1 hv)
  have:=hts m hm
  omega) hr' hc.2
 unfold cY
 simp only [Bool.and_eq_true,decide_eq_true_eq]
 exact ⟨by simpa using hc.1,by omega,h1⟩
theorem vh {ls : List Ln} (hls : ∀ l ∈ ls,cY l = true) {s : Stp} (h : (fb ls s).1 = 0) : cY (fb ls s).2 = true:=by
 unfold fb at h ⊢
 split at h
 ·cases h
 rename_i hl
 rw [if_neg hl]
 dsimp only at h ⊢
 split at h
 ·rename_i h0
  rw [if_pos h0]
  have hp:=n9 hls s.parts 0 0 [] qF h0
  generalize d5 ls s.parts 0 [] = q at *
  have e2 : da q.2.1 q.2.2 s.div = (0,(da q.2.1 q.2.2 s.div).2):=by rw [← h]
  exact oV (fun m hm=>⟨(hp.ok m hm).1,(hp.ok m hm).2.1⟩) e2
 ·rename_i h0;exact absurd h h0
theorem lL : ∀ (t : List Tm) (last : Int) (m : Tm),cU last (t ++ [m]) = (cU last t && jY ((t.getLast?.map (·.1)).getD last) m)
 | [],last,m=>by simp [cU]
 | a :: r,last,m=>by
  rw [List.cons_append,cU,cU,lL r a.1 m,Bool.and_assoc]
  cases r with
  | nil=>rfl
  | cons b s=>rw [List.getLast?_cons_cons];simp [List.getLast?_eq_some_getLast]
end Go.Proofs.YtmpdocplcgbpkaaGreatDoor

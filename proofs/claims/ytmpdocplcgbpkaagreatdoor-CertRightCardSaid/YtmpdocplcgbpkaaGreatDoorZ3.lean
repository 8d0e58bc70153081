/- K: calls, sound; and all operations together. No program is in sight. K: regions in the order of the text; code. No program is in sight. K: regions that draw their order. One run in the order of the text serves every order, if what conflicts is ordered. No program is in sight. -/
import Derived.Test.YtmpdocplcgbpkaaGreatDoorZ2
import Derived.Orders
namespace Go.Proofs.YtmpdocplcgbpkaaGreatDoor
set_option linter.unusedSimpArgs false
set_option linter.unusedVariables false
open Go.RowKit
theorem iA : ∀ {l m : List Nat},m.Nodup→(pY m l).Nodup
 | [],m,h=>h
 | x :: r,m,h=>by
  unfold pY
  split
  ·exact iA h
  ·rename_i hx
   refine iA (List.nodup_append.2 ⟨h,by simp,fun a ha b hb=>?_⟩)
   simp at hb
   subst hb
   intro e;subst e
   exact hx (by simpa using ha)
section
variable {P : Program} {σ : bv} {Goal : List (Nat × AV)→Prop}
theorem Snd.rdBoxes : ∀ {ns : List Nat} {f : List AV→TR},((∀ b ∈ ns,10000≤b∧b < 1000000)→Snd P σ (f (ns.map (be σ))) Goal)→Snd P σ (rdBoxes ns f) Goal
 | [],f,h=>h (fun b hb=>by simp at hb)
 | b :: r,f,h=>.need fun hb=>.rd (Snd.rdBoxes (ns:=r) fun hr=>h fun x hx=>by
   rcases List.mem_cons.1 hx with rfl | hx
   ·exact hb
   ·exact hr x hx)
theorem Snd.gather {tk : Bool} : ∀ {k : Nat} {ns : List Nat} {f : List Nat→List AV→TR},ns.Nodup→(∀ ns' : List Nat,ns'.Nodup→(∀ b ∈ ns',10000≤b∧b < 1000000)→Snd P σ (f ns' (ns'.map (be σ))) Goal)→Snd P σ (gather tk k ns f) Goal
 | 0,_,_,_,_=>.fail
 | k + 1,ns,f,hn,h=>by
  refine .rdBoxes fun hb=>?_
  split
  ·exact h ns hn hb
  ·exact Snd.gather (iA hn) h
end
theorem fO : ∀ {ns : List Nat} {i b b' : Nat},eo (bJ i ns) b = some b'→∃ j,j < ns.length∧b' = 20000 + i + j∧ns[j]? = some b
 | [],i,b,b',h=>by simp [bJ,eo] at h
 | x :: r,i,b,b',h=>by
  simp only [bJ,eo] at h
  split at h
  ·rename_i e;cases h;subst e;exact ⟨0,by simp,by omega,by simp⟩
  ·obtain ⟨j,h1,h2,h3⟩:=fO h
   exact ⟨j + 1,by simpa using h1,by omega,by simpa using h3⟩
theorem j8 : ∀ {ns : List Nat} {i b b' : Nat},eo (dL (bJ i ns)) b = some b'→∃ j,j < ns.length∧b = 20000 + i + j∧ns[j]? = some b'
 | [],i,b,b',h=>by simp [bJ,dL,eo] at h
 | x :: r,i,b,b',h=>by
  simp only [bJ,dL,List.map_cons,eo] at h
  split at h
  ·rename_i e;cases h;exact ⟨0,by simp,by omega,by simp⟩
  ·obtain ⟨j,h1,h2,h3⟩:=j8 (ns:=r) (i:=i + 1) h
   exact ⟨j + 1,by simpa using h1,by omega,by simpa using h3⟩
theorem jK {G G' : Gh} {B B' : Nat→AV} {g : List (Nat × Nat)} (hZ : G'.Z = G.Z)
  (hreal : ∀ k,(∃ cs ty,B k = .bc cs ty)∨(∃ n e,B k = .bt n e)→k < 1000000)
  (hg : ∀ b b',f7 g b = some b'→10000≤b'∧(∀ cs ty,B b = .bc cs ty→∃ cs',B' b' = .bc cs' ty)∧(∀ n e,B b = .bt n e→B' b' = .bt n e)∧G'.γ b' = G.γ b∧G'.κ b' = G.κ b∧G'.β b' = G.β b∧(∀ cs v e sz,B b = .br cs v e sz→∃ cs',B' b' = .br cs' v e sz)) :
  ∀ (k : Nat) {x : AV} {v : Value},VRel G B v x→VRel G' B' v (ren g k x)
 | 0,x,v,_=>.p (.u v)
 | k + 1,x,v,h=>by
  have lst : ∀ {cs : List AV} {vs : Array Value},(∀ j (hj : j < cs.length),VRel G B (vs.getD j undef) cs[j])→∀ j (hj : j < (cs.map (ren g k)).length),VRel G' B' (vs.getD j undef) (cs.map (ren g k))[j]:=fun {cs vs} hp j hj=>by
   rw [List.getElem_map]
   exact jK hZ hreal hg k (hp j (by simpa using hj))
  cases x with
  | c x=>rw [cI h];exact .p (.c x)
  | u=>exact .p (.u v)
  | sl cs n o =>
   obtain ⟨ad,cap,b,off,f,rfl,⟨h1,h2,h3,h4,h5⟩,hf,ht⟩:=dR h
   cases o with
   | none=>exact .p (.sl ad b off n cap .none cs f (.inl rfl) h1 h2 h3 (by rw [hZ];exact h4) (by rw [hZ];exact h5))
   | full=>exact .p (.sl ad b off n cap .full cs f (.inr ⟨rfl,hf rfl⟩) h1 h2 h3 (by rw [hZ];exact h4) (by rw [hZ];exact h5))
   | tok t =>
    have hp : PRel G'.Z (.slice ad n cap) (.sl cs n .none):=.sl ad b off n cap .none cs f (.inl rfl) h1 h2 h3 (by rw [hZ];exact h4) (by rw [hZ];exact h5)
    obtain ⟨h6,tip,e,hB,hn,hk⟩:=ht t rfl
    simp only [ren]
    split
    ·rename_i b' hb'
     obtain ⟨q1,_,q3,q4,q5,_⟩:=hg t b' ((if_pos (hreal t (.inr ⟨_,_,hB⟩))).trans hb')
     refine .tok ad n cap cs b' tip e hp q1 (q3 tip e hB) hn fun e'=>?_
     have:=hk e'
     unfold lu at *
     rw [q4,q5];exact this
    ·exact .p hp
  | rf cs o =>
   obtain ⟨b,off,f,rfl,hz,hp⟩:=gk h
   exact .p (.rf b off o cs f (by rw [hZ];exact hz) (by rw [hZ];exact hp))
  | agg cs =>
   obtain ⟨vs,rfl,hs,h1,hp⟩:=fe h
   exact .agg vs _ (by simpa using hs) (fun j hj=>h1 j (by simpa using hj)) (lst hp)
  | tup cs =>
   obtain ⟨vs,rfl,hs,hp⟩:=gt h
   exact .tup vs _ (by simpa using hs) (lst hp)
  | ifc t x =>
   obtain ⟨v',rfl,hv⟩:=dk h
   exact .ifc t v' _ (jK hZ hreal hg k hv)
  | fn f p q =>
   obtain ⟨va,vb,rfl,ha,hb,pa,pb⟩:=g6 h
   exact .fn f va vb _ _ (by simpa using ha) (by simpa using hb) (lst pa) (lst pb)
  | loc b off =>
   obtain ⟨g',cs,ty,rfl,hb,hB,hγ,hm⟩:=ff h
   simp only [ren]
   split
   ·rename_i b' hb'
    obtain ⟨q1,q2,_,q4,_⟩:=hg b b' ((if_pos (hreal b (.inl ⟨_,_,hB⟩))).trans hb')
    obtain ⟨cs',q2⟩:=q2 cs ty hB
    exact .loc b' off g' cs' ty q1 q2 (q4.trans hγ) hm
   ·exact .p (.u _)
  | arr b off n e =>
   obtain ⟨g',cap,cs,ty,rfl,hn,hb,hB,hγ,hm⟩:=gr h
   simp only [ren]
   split
   ·rename_i b' hb'
    obtain ⟨q1,q2,_,q4,_⟩:=hg b b' ((if_pos (hreal b (.inl ⟨_,_,hB⟩))).trans hb')
    obtain ⟨cs',q2⟩:=q2 cs ty hB
    exact .arr b' off n e cap g' cs' ty q1 q2 (q4.trans hγ) hn hm
   ·exact .p (.u _)
  | mp b =>
   obtain ⟨g',cs,ty,rfl,hb,hB,hγ,hm⟩:=jm h
   simp only [ren]
   split
   ·rename_i b' hb'
    obtain ⟨q1,q2,_,q4,_⟩:=hg b b' ((if_pos (hreal b (.inl ⟨_,_,hB⟩))).trans hb')
    obtain ⟨cs',q2⟩:=q2 cs ty hB
    exact .mp b' g' cs' ty q1 q2 (q4.trans hγ) hm
   ·exact .p (.u _)
  | ow b off n ver =>
   obtain ⟨ad,cap,cs,v',e,sz,rfl,hn,had,hb,hB,hvv,how⟩:=gj h
   simp only [ren]
   split
   ·rename_i b' hb'
    obtain ⟨q1,_,_,q4,q5,q6,q7⟩:=hg b b' hb'
    obtain ⟨cs',q7⟩:=q7 cs v' e sz hB
    refine .ow ad n cap b' off ver cs' v' e sz q1 q7 hn had hvv fun hv=>?_
    have:=how hv
    unfold nr at *
    rw [q4,q5,q6];exact this
   ·exact .p (.u _)
  | lo b off ver =>
   obtain ⟨g',o,cs,v',e,sz,rfl,hb,hB,hvv,hk⟩:=iJ h
   simp only [ren]
   split
   ·rename_i b' hb'
    obtain ⟨q1,_,_,q4,q5,q6,q7⟩:=hg b b' hb'
    obtain ⟨cs',q7⟩:=q7 cs v' e sz hB
    refine .lo g' o b' off ver cs' v' e sz q1 q7 hvv fun hv=>?_
    rw [q4,q6];exact hk hv
   ·exact .p (.u _)
  | bc cs ty=>exact (sh h).elim
  | bt n e=>exact (sj h).elim
  | br cs v e sz=>exact (si h).elim
  | fo rows=>exact (sk h).elim
theorem tL {G G' : Gh} {B B' : Nat→AV} {g : List (Nat × Nat)} (hZ : G'.Z = G.Z)
  (hreal : ∀ k,(∃ cs ty,B k = .bc cs ty)∨(∃ n e,B k = .bt n e)→k < 1000000)
  (hg : ∀ b b',f7 g b = some b'→10000≤b'∧(∀ cs ty,B b = .bc cs ty→∃ cs',B' b' = .bc cs' ty)∧(∀ n e,B b = .bt n e→B' b' = .bt n e)∧G'.γ b' = G.γ b∧G'.κ b' = G.κ b∧G'.β b' = G.β b∧(∀ cs v e sz,B b = .br cs v e sz→∃ cs',B' b' = .br cs' v e sz))
  {P : Program} {w : World} {k k' g' : Nat} (h : BoxAt P G B w k g') (hB : B' k' = dq g (B k)) (hκ : G'.κ k' = G.κ k) (hβ : G'.β k' = G.β k) : BoxAt P G' B' w k' g':=by
 rcases h with ⟨cs,ty,e,h2⟩ | ⟨n,e,h1,c,h2,h3,h4,h5,h6⟩ | ⟨cs,v,e,sz,h1,h2⟩
 ·rw [e] at hB
  exact .inl ⟨_,ty,hB,h2.to (ren g 4) (fun _=>rfl) (fun _ _ h=>jK hZ hreal hg 4 h) rfl fun o ho=>by rw [hZ];exact ho⟩
 ·rw [h1] at hB
  rw [← hκ] at h3 h4 h5
  exact .inr (.inl ⟨n,e,hB,c,h2,h3,h4,h5,by rw [hZ];exact h6⟩)
 ·rw [h1] at hB
  exact .inr (.inr ⟨_,v,e,sz,hB,h2.to (ren g 4) (fun _ _ h=>jK hZ hreal hg 4 h) rfl hκ hβ fun o ho=>by rw [hZ];exact ho⟩)
theorem oh (g : List (Nat × Nat)) (x : AV) (i : Nat) : dv (dq g x) i = dq g (dv x i):=by
 cases x with
 | fo rows =>
  simp only [dq,dv,gU,List.getD_eq_getElem?_getD,List.getElem?_map]
  cases h : rows[i]? with
  | none=>rfl
  | some y=>cases y <;> rfl
 | _=>rfl
theorem kG {B : Nat→AV} : ∀ k,(∃ cs ty,lk B k = .bc cs ty)∨(∃ n e,lk B k = .bt n e)→k < 1000000:=fun k h=>by
 rcases h with ⟨_,_,h⟩ | ⟨_,_,h⟩
 ·exact (fI h).1
 ·exact (wF h).1
theorem nJ {g : List (Nat × Nat)} : ∀ {ns : List Nat} {bs : List AV} {σ : bv},bs.length = ns.length→ns.Nodup→(∀ (j : Nat) (b : Nat) (x : AV),ns[j]? = some b→bs[j]? = some x→be (ck σ (gA g ns bs)) b = dq g x)∧∀ k,k ∉ ns→be (ck σ (gA g ns bs)) k = be σ k
 | [],[],σ,_,_=>⟨fun j b x h=>by simp at h,fun k _=>rfl⟩
 | n :: ns,x :: bs,σ,hl,hn=>by
  obtain ⟨h1,h2⟩:=List.nodup_cons.1 hn
  obtain ⟨h3,h4⟩:=nJ (g:=g) (ns:=ns) (bs:=bs) (σ:=cC σ n (dq g x)) (by simpa using hl) h2
  refine ⟨fun j b y hb hy=>?_,fun k hk=>?_⟩
  ·cases j with
   | zero =>
    simp at hb hy
    subst hb;subst hy
    show be (ck (cC σ n (dq g x)) (gA g ns bs)) n = _
    rw [h4 n h1,bO,if_pos rfl]
   | succ j=>exact h3 j b y (by simpa using hb) (by simpa using hy)
  ·show be (ck (cC σ n (dq g x)) (gA g ns bs)) k = _
   rw [h4 k (fun h=>hk (by simp [h])),bO,if_neg (fun e=>hk (by simp [e]))]
theorem lI (σ : bv) : ∀ (a b : List (Nat × AV)),ck σ (a ++ b) = ck (ck σ a) b
 | [],b=>rfl
 | (k,v) :: a,b=>lI (cC σ k v) a b
theorem jB {bs : List AV} {j : Nat} {x : AV} (h : bs[j]? = some x) : dd bs (20000 + j) = x:=by
 unfold dd
 rw [if_pos (by omega),Nat.add_sub_cancel_left,List.getD_eq_getElem?_getD,h];rfl
structure NB (ns : List Nat) : Prop where
 nd : ns.Nodup
 bd : ∀ b ∈ ns,10000≤b∧b < 1000000
 len : ns.length≤1001
def trC (ns : List Nat) (k : Nat) : Option Nat:=if k < 1000000 then (if 20000≤k then ns[k - 20000]? else none) else if 20000≤df k then (ns[df k - 20000]?).map fun b=>enc b (d7 k) else none
def trB (ns : List Nat) (k : Nat) : Option Nat:=if k < 1000000 then (if k ∈ ns then some (20000 + ns.idxOf k) else none) else if df k ∈ ns then some (enc (20000 + ns.idxOf (df k)) (d7 k)) else none
theorem wm {ns : List Nat} (hn : ns.Nodup) {j b : Nat} (h : ns[j]? = some b) : ns.idxOf b = j:=by
 obtain ⟨h1,h2⟩:=List.getElem?_eq_some_iff.1 h
 subst h2
 exact hn.idxOf_getElem j h1
theorem vJ {ns : List Nat} {b : Nat} (h : b ∈ ns) : ns[ns.idxOf b]? = some b:=by
 have h1:=List.idxOf_lt_length_of_mem h
 rw [List.getElem?_eq_getElem h1];simp
theorem gx {ns : List Nat} {k b : Nat} (h : trC ns k = some b) : (k < 1000000∧∃ j,k = 20000 + j∧ns[j]? = some b)∨(¬ k < 1000000∧∃ j b0,df k = 20000 + j∧ns[j]? = some b0∧b = enc b0 (d7 k)):=by
 unfold trC at h
 split at h
 ·rename_i h1
  split at h
  ·rename_i h2;exact .inl ⟨h1,k - 20000,by omega,h⟩
  ·cases h
 ·rename_i h1
  split at h
  ·rename_i h2
   obtain ⟨b0,h3,h4⟩:=Option.map_eq_some_iff.1 h
   exact .inr ⟨h1,df k - 20000,b0,by omega,h3,h4.symm⟩
  ·cases h
theorem eH {ns : List Nat} {j b : Nat} (h : NB ns) (hj : ns[j]? = some b) : trC ns (20000 + j) = some b:=by
 have hl:=(List.getElem?_eq_some_iff.1 hj).1
 have hlen:=h.len
 unfold trC
 rw [if_pos (by omega),if_pos (by omega),Nat.add_sub_cancel_left,hj]
theorem kR {ns : List Nat} {j b i : Nat} (h : NB ns) (hj : ns[j]? = some b) : trC ns (enc (20000 + j) i) = some (enc b i):=by
 have hl:=(List.getElem?_eq_some_iff.1 hj).1
 have hlen:=h.len
 unfold trC
 rw [if_neg (gq _ _),fx _ (by omega),if_pos (by omega),fY _ (by omega),Nat.add_sub_cancel_left,hj];rfl
theorem nf {ns : List Nat} (h : NB ns) {k b : Nat} (hc : trC ns k = some b) : trB ns b = some k:=by
 rcases gx hc with ⟨h1,j,rfl,h2⟩ | ⟨h1,j,b0,h2,h3,rfl⟩
 ·obtain ⟨_,hb⟩:=h.bd b (List.mem_of_getElem? h2)
  unfold trB
  rw [if_pos hb,if_pos (List.mem_of_getElem? h2),wm h.nd h2]
 ·obtain ⟨_,hb⟩:=h.bd b0 (List.mem_of_getElem? h3)
  unfold trB
  rw [if_neg (gq _ _),fx _ hb,if_pos (List.mem_of_getElem? h3),wm h.nd h3,fY _ hb,← h2,iD h1]
theorem ne {ns : List Nat} (h : NB ns) {k b : Nat} (hb : trB ns b = some k) : trC ns k = some b:=by
 unfold trB at hb
 split at hb
 ·split at hb
  ·rename_i hm
   cases hb
   exact eH h (vJ hm)
  ·cases hb
 ·rename_i hbig
  split at hb
  ·rename_i hm
   cases hb
   rw [kR h (vJ hm),iD hbig]
  ·cases hb
theorem kh {ns : List Nat} {k b : Nat} (h : trC ns k = some b) : 20000≤k:=by
 rcases gx h with ⟨_,j,rfl,_⟩ | ⟨h1,_⟩ <;> omega
theorem xm {ns : List Nat} (h : NB ns) {k b : Nat} (hb : trB ns b = some k) : 10000≤b:=by
 rcases gx (ne h hb) with ⟨_,j,_,h2⟩ | ⟨_,j,b0,_,_,rfl⟩
 ·exact (h.bd b (List.mem_of_getElem? h2)).1
 ·have:=gq b0 (d7 k);omega
theorem zC {ns ns2 : List Nat} (hs : ∀ b,b ∈ ns→b ∈ ns2) {k b : Nat} (hb : trB ns b = some k) : ∃ k',trB ns2 b = some k':=by
 unfold trB at hb ⊢
 split at hb
 ·rename_i h1
  split at hb
  ·rename_i hm;exact ⟨_,by rw [if_pos h1,if_pos (hs _ hm)]⟩
  ·cases hb
 ·rename_i h1
  split at hb
  ·rename_i hm;exact ⟨_,by rw [if_neg h1,if_pos (hs _ hm)]⟩
  ·cases hb
theorem k8 {ns : List Nat} (h : NB ns) {b b' : Nat} (hl : f7 (bJ 0 ns) b = some b') : trC ns b' = some b:=by
 unfold f7 at hl
 split at hl
 ·obtain ⟨j,_,h2,h3⟩:=fO hl
  rw [Nat.add_zero] at h2
  subst h2
  exact eH h h3
 ·rename_i hbig
  obtain ⟨b0,h1,rfl⟩:=Option.map_eq_some_iff.1 hl
  obtain ⟨j,_,h2,h3⟩:=fO h1
  rw [Nat.add_zero] at h2
  subst h2
  rw [kR h h3,iD hbig]
theorem sB {ns : List Nat} (h : NB ns) {b b' : Nat} (hl : f7 (dL (bJ 0 ns)) b = some b') : trC ns b = some b':=by
 unfold f7 at hl
 split at hl
 ·obtain ⟨j,_,h2,h3⟩:=j8 hl
  rw [Nat.add_zero] at h2
  subst h2
  exact eH h h3
 ·rename_i hbig
  obtain ⟨b0,h1,rfl⟩:=Option.map_eq_some_iff.1 hl
  obtain ⟨j,_,h2,h3⟩:=j8 h1
  rw [Nat.add_zero] at h2
  have:=kR (i:=d7 b) h h3
  rwa [← h2,iD hbig] at this
theorem v7 {ns : List Nat} (h : NB ns) {bxs : List AV} {F : AV→AV} {σ : bv} (hF : ∀ x i,dv (F x) i = F (dv x i)) (hb : ∀ (j b : Nat),ns[j]? = some b→dd bxs (20000 + j) = F (be σ b)) {k b : Nat} (hc : trC ns k = some b) : bP bxs k = F (lm σ b):=by
 rcases gx hc with ⟨h1,j,rfl,h2⟩ | ⟨h1,j,b0,h2,h3,rfl⟩
 ·obtain ⟨_,hbd⟩:=h.bd b (List.mem_of_getElem? h2)
  show lk (dd bxs) (20000 + j) = F (lk (be σ) b)
  rw [ca h1,ca hbd];exact hb j b h2
 ·obtain ⟨hbd1,hbd2⟩:=h.bd b0 (List.mem_of_getElem? h3)
  show lk (dd bxs) k = F (lk (be σ) (enc b0 (d7 k)))
  rw [mH _ hbd1 hbd2,← hF,← hb j b0 h3]
  unfold lk
  rw [if_neg h1,if_pos (by omega),h2]
section
variable {E : Env} {o : Oper} {σ : bv} {a : Act} {w : World} {G : Gh}
def GhC (G : Gh) (ns : List Nat) : Gh:=⟨G.Z,fun k=>(trC ns k).bind G.γ,fun k=>(trC ns k).elim 0 G.κ,fun k=>(trC ns k).elim 0 G.β⟩
def GhB (G G' : Gh) (ns : List Nat) : Gh:=⟨G'.Z,fun k=>match trB ns k with | some k'=>G'.γ k' | none=>G.γ k,fun k=>match trB ns k with | some k'=>G'.κ k' | none=>G.κ k,fun k=>match trB ns k with | some k'=>G'.β k' | none=>G.β k⟩
theorem dt (G : Gh) {ns : List Nat} {k b : Nat} (h : trC ns k = some b) : (GhC G ns).γ k = G.γ b∧(GhC G ns).κ k = G.κ b∧(GhC G ns).β k = G.β b:=by
 unfold GhC
 simp [h]
theorem iz (G : Gh) {ns : List Nat} {k g : Nat} (h : (GhC G ns).γ k = some g) : ∃ b,trC ns k = some b∧G.γ b = some g:=Option.bind_eq_some_iff.1 h
theorem fK (G G' : Gh) {ns : List Nat} {k b : Nat} (h : trB ns b = some k) : (GhB G G' ns).γ b = G'.γ k∧(GhB G G' ns).κ b = G'.κ k∧(GhB G G' ns).β b = G'.β k:=by
 unfold GhB
 simp [h]
theorem gW (G G' : Gh) {ns : List Nat} {b : Nat} (h : trB ns b = none) : (GhB G G' ns).γ b = G.γ b∧(GhB G G' ns).κ b = G.κ b∧(GhB G G' ns).β b = G.β b:=by
 unfold GhB
 simp [h]
theorem xb (h : Sim E σ a w G) {f : FuncId} {tk : Bool} {args : List AV} {vs : Array Value} (hvs : vs.size = args.length) (hargs : ∀ j (hj : j < args.length),VRel G (lm σ) (vs.getD j undef) args[j])
  (hrun : aM E.P f = true→(execOp a.eval o).run E.P w = .ok (.enter f vs) w) : Snd E.P σ (tt E.P E.N tk o f args) (d6 E o σ a w):=by
 unfold tt
 refine .need fun ⟨hok,hd⟩=>.gather (iA (by simp)) fun ns hn hb=>.need fun ⟨hbox,hlen0⟩=>.call fun r bs' hfn=>?_
 have hNB : NB ns:=⟨hn,hb,by omega⟩
 have hext : ∀ k b,trC ns k = some b→bP ((ns.map (be σ)).map (dq (bJ 0 ns))) k = dq (bJ 0 ns) (lm σ b):=fun k b hk =>
  v7 hNB (oh _) (fun j b hj=>jB (by simp [hj])) hk
 have hg : ∀ b b',f7 (bJ 0 ns) b = some b'→10000≤b'∧(∀ cs ty,lm σ b = .bc cs ty→∃ cs',bP ((ns.map (be σ)).map (dq (bJ 0 ns))) b' = .bc cs' ty) ∧
   (∀ n e,lm σ b = .bt n e→bP ((ns.map (be σ)).map (dq (bJ 0 ns))) b' = .bt n e)∧(GhC G ns).γ b' = G.γ b∧(GhC G ns).κ b' = G.κ b∧(GhC G ns).β b' = G.β b ∧
   (∀ cs v e sz,lm σ b = .br cs v e sz→∃ cs',bP ((ns.map (be σ)).map (dq (bJ 0 ns))) b' = .br cs' v e sz):=fun b b' hl=>by
  have h3:=k8 hNB hl
  rw [hext b' b h3]
  have:=kh h3
  exact ⟨by omega,fun cs ty e=>⟨_,by rw [e];rfl⟩,fun n e he=>by rw [he];rfl,(dt G h3).1,(dt G h3).2.1,(dt G h3).2.2,fun cs v e sz he=>⟨_,by rw [he];rfl⟩⟩
 have hst : BSim E.P (fun b=>b < w.heap.size∧∀ k,(GhC G ns).γ k ≠ some b) (GhC G ns) (bP ((ns.map (be σ)).map (dq (bJ 0 ns)))) w:=by
  refine ⟨h.st.agree,fun k g hk=>?_,fun k cs ty hk hB=>?_,fun k k' g h1 h2=>?_,h.st.gl⟩
  ·obtain ⟨b,h2,h3⟩:=iz G hk
   obtain ⟨_,_,h4⟩:=h.st.box b g h3
   have:=kh h2
   exact ⟨by omega,fun hp=>hp.2 _ hk,tL (G:=G) (G':=GhC G ns) rfl kG hg h4 (hext k b h2) (dt G h2).2.1 (dt G h2).2.2⟩
  ·obtain ⟨hkb,hB⟩:=fI hB
   unfold dd at hB
   split at hB
   ·rename_i hk'
    rw [List.getD_eq_getElem?_getD] at hB
    cases hj : ns[k - 20000]? with
    | none=>simp [hj] at hB
    | some b =>
     simp only [List.getElem?_map,hj,Option.map_some,Option.getD_some] at hB
     have : ∃ cs',be σ b = .bc cs' ty:=by
      cases hm : be σ b <;> rw [hm] at hB <;> simp [dq] at hB
      rename_i cs' ty'
      exact ⟨cs',by rw [hB.2]⟩
     obtain ⟨cs',hm⟩:=this
     obtain ⟨hb1,hb2⟩:=hb b (List.mem_of_getElem? hj)
     obtain ⟨g,hγ⟩:=h.st.real b cs' ty hb1 ((ca hb2).trans hm)
     refine ⟨g,?_⟩
     have:=(dt G (eH hNB hj)).1
     rw [show 20000 + (k - 20000) = k by omega] at this
     exact this.trans hγ
   ·cases hB
  ·obtain ⟨b,h3,h4⟩:=iz G h1
   obtain ⟨b',h5,h6⟩:=iz G h2
   have:=h.st.inj b b' g h4 h6
   subst this
   have e1:=nf hNB h3
   have e2:=nf hNB h5
   rw [e1] at e2;exact Option.some.inj e2
 have hargs' : ∀ j (hj : j < (args.map (ren (bJ 0 ns) 4)).length),VRel (GhC G ns) (bP ((ns.map (be σ)).map (dq (bJ 0 ns)))) (vs.getD j undef) (args.map (ren (bJ 0 ns) 4))[j]:=fun j hj=>by
  rw [List.getElem_map]
  exact jK (G:=G) (G':=GhC G ns) rfl kG hg 4 (hargs j (by simpa using hj))
 have hX : XP w (fun b=>b < w.heap.size∧∀ k,(GhC G ns).γ k ≠ some b):=fun g cs hg=>by
  obtain ⟨⟨ty,fl,h1⟩,h2⟩:=E.hB0.2 g cs hg
  exact ⟨⟨ty,fl,(h.fr.block g h2).2.trans h1⟩,Nat.lt_of_lt_of_le (h.fr.block g h2).1 h.fr.size,fun k hk=>by
   obtain ⟨b',_,h4⟩:=iz G hk
   exact (h.st.box b' g h4).2.1 h2⟩
 have hcalls:=hfn w (GhC G ns) vs hst hX (by simpa using hvs) hargs'
 have back : ∀ ns2 : List Nat,(ns2 = ns∨∃ key,ns2 = ns ++ [key]∧10000≤key∧key < 1000000∧be σ key = .u∧key ∉ ns)→bs'.length = ns2.length→Snd E.P σ (tr o ns2 r bs') (d6 E o σ a w):=fun ns2 hns2 hlen'=>by
  refine .done fun Q=>?_
  have hn2 : ns2.Nodup:=by
   rcases hns2 with rfl | ⟨key,rfl,_,_,_,hk⟩
   ·exact hn
   ·exact List.nodup_append.2 ⟨hn,by simp,fun x hx y hy=>by simp at hy;subst hy;intro e;exact hk (e ▸ hx)⟩
  have hb2' : ∀ b ∈ ns2,10000≤b∧b < 1000000:=fun b hbm=>by
   rcases hns2 with rfl | ⟨key,rfl,hk,hk2,_,_⟩
   ·exact hb b hbm
   ·rcases List.mem_append.1 hbm with hbm | hbm
    ·exact hb b hbm
    ·simp at hbm;omega
  have hNB2 : NB ns2:=⟨hn2,hb2',by
   rcases hns2 with rfl | ⟨key,rfl,_⟩
   ·omega
   ·simp;omega⟩
  have hsub : ∀ b,b ∈ ns→b ∈ ns2:=fun b hbm=>by
   rcases hns2 with rfl | ⟨key,rfl,_,_,_⟩
   ·exact hbm
   ·exact List.mem_append_left _ hbm
  have hold0 : ∀ j b,ns2[j]? = some b→ns[j]? = some b∨be σ b = .u:=fun j b hj=>by
   rcases hns2 with rfl | ⟨key,rfl,_,_,hu,_⟩
   ·exact .inl hj
   ·by_cases hlt : j < ns.length
    ·rw [List.getElem?_append_left hlt] at hj;exact .inl hj
    ·rw [List.getElem?_append_right (by omega)] at hj
     cases h0 : j - ns.length with
     | zero=>rw [h0] at hj;simp at hj;subst hj;exact .inr hu
     | succ i=>rw [h0] at hj;simp at hj
  have hold : ∀ k b,trC ns2 k = some b→trC ns k = some b∨lm σ b = .u:=fun k b hk=>by
   rcases gx hk with ⟨h1,j,rfl,h2⟩ | ⟨h1,j,b0,h2,h3,rfl⟩
   ·rcases hold0 j b h2 with h4 | h4
    ·exact .inl (eH hNB h4)
    ·exact .inr ((ca (hb2' b (List.mem_of_getElem? h2)).2).trans h4)
   ·rcases hold0 j b0 h3 with h4 | h4
    ·left
     have:=kR (i:=d7 k) hNB h4
     rwa [← h2,iD h1] at this
    ·right
     obtain ⟨q1,q2⟩:=hb2' b0 (List.mem_of_getElem? h3)
     unfold lm
     rw [mH _ q1 q2,h4];rfl
  unfold Oper.wp
  rw [hrun hok]
  refine Calls.mono hcalls ?_
  rintro e w' ⟨v,G',rfl,hv,hst',hw,hs',hz'⟩
  have hσ : ∀ k,be (ck σ (gA (dL (bJ 0 ns2)) ns2 bs' ++ dn o (ren (dL (bJ 0 ns2)) 4 r))) k = if some k = o.dst then ren (dL (bJ 0 ns2)) 4 r else be (ck σ (gA (dL (bJ 0 ns2)) ns2 bs')) k:=fun k=>by
   rw [lI,fq]
  obtain ⟨hb1,hb2⟩:=nJ (g:=dL (bJ 0 ns2)) (ns:=ns2) (bs:=bs') (σ:=σ) hlen' hn2
  have hσb : ∀ k,10000≤k→be (ck σ (gA (dL (bJ 0 ns2)) ns2 bs' ++ dn o (ren (dL (bJ 0 ns2)) 4 r))) k = be (ck σ (gA (dL (bJ 0 ns2)) ns2 bs')) k:=fun k hk=>by
   rw [hσ,if_neg (fun e=>by have h2 : k < 10000:=(gi hd k e.symm).2;omega)]
  have hatR : ∀ j b,ns2[j]? = some b→be (ck σ (gA (dL (bJ 0 ns2)) ns2 bs' ++ dn o (ren (dL (bJ 0 ns2)) 4 r))) b = dq (dL (bJ 0 ns2)) (dd bs' (20000 + j)):=fun j b hj=>by
   rw [hσb b (hb2' b (List.mem_of_getElem? hj)).1]
   obtain ⟨h1,_⟩:=List.getElem?_eq_some_iff.1 hj
   have h2 : bs'[j]? = some bs'[j]:=List.getElem?_eq_getElem (by omega)
   rw [hb1 j b _ hj h2,jB h2]
  have hnotR : ∀ k,10000≤k→k ∉ ns2→be (ck σ (gA (dL (bJ 0 ns2)) ns2 bs' ++ dn o (ren (dL (bJ 0 ns2)) 4 r))) k = be σ k:=fun k hk hk'=>by
   rw [hσb k hk,hb2 k hk']
  have hslot : ∀ t,t < 10000→be (ck σ (gA (dL (bJ 0 ns2)) ns2 bs' ++ dn o (ren (dL (bJ 0 ns2)) 4 r))) t = if some t = o.dst then ren (dL (bJ 0 ns2)) 4 r else be σ t:=fun t ht=>by
   rw [hσ]
   split
   ·rfl
   ·rw [hb2 t (fun hm=>by have:=(hb2' t hm).1;omega)]
  generalize ck σ (gA (dL (bJ 0 ns2)) ns2 bs' ++ dn o (ren (dL (bJ 0 ns2)) 4 r)) = σ2 at *
  have hat : ∀ k b,trC ns2 k = some b→lm σ2 b = dq (dL (bJ 0 ns2)) (bP bs' k):=fun k b hk=>by
   rcases gx hk with ⟨h1,j,rfl,h2⟩ | ⟨h1,j,b0,h2,h3,rfl⟩
   ·show lk (be σ2) b = dq _ (lk (dd bs') (20000 + j))
    rw [ca (hb2' b (List.mem_of_getElem? h2)).2,ca h1];exact hatR j b h2
   ·obtain ⟨q1,q2⟩:=hb2' b0 (List.mem_of_getElem? h3)
    show lk (be σ2) (enc b0 (d7 k)) = dq _ (lk (dd bs') k)
    have e1 : lk (dd bs') k = dv (dd bs' (20000 + j)) (d7 k):=by
     unfold lk
     rw [if_neg h1,if_pos (by omega),h2]
    rw [mH _ q1 q2,hatR j b0 h3,oh,e1]
  have hnot : ∀ k,10000≤k→trB ns2 k = none→lm σ2 k = lm σ k:=fun k hk hk'=>by
   unfold trB at hk'
   show lk (be σ2) k = lk (be σ) k
   unfold lk
   split at hk'
   ·rename_i h1
    rw [if_pos h1,if_pos h1]
    exact hnotR k hk (fun hm=>by rw [if_pos hm] at hk';cases hk')
   ·rename_i h1
    rw [if_neg h1,if_neg h1]
    by_cases h2 : 10000≤df k
    ·rw [if_pos h2,if_pos h2,hnotR _ h2 (fun hm=>by rw [if_pos hm] at hk';cases hk')]
    ·rw [if_neg h2,if_neg h2]
  have hgb' : ∀ b b',f7 (dL (bJ 0 ns2)) b = some b'→10000≤b'∧(∀ cs ty,bP bs' b = .bc cs ty→∃ cs',lm σ2 b' = .bc cs' ty) ∧
    (∀ n e,bP bs' b = .bt n e→lm σ2 b' = .bt n e)∧(GhB G G' ns2).γ b' = G'.γ b∧(GhB G G' ns2).κ b' = G'.κ b∧(GhB G G' ns2).β b' = G'.β b ∧
    (∀ cs v e sz,bP bs' b = .br cs v e sz→∃ cs',lm σ2 b' = .br cs' v e sz):=fun b b' hl=>by
   have h3:=sB hNB2 hl
   have h4:=nf hNB2 h3
   rw [hat b b' h3]
   exact ⟨xm hNB2 h4,fun cs ty e=>⟨_,by rw [e];rfl⟩,fun n e he=>by rw [he];rfl,(fK G G' h4).1,(fK G G' h4).2.1,(fK G G' h4).2.2,fun cs v e sz he=>⟨_,by rw [he];rfl⟩⟩
  have hprc : ∀ b,E.Pr b→b < w.heap.size∧∀ k,(GhC G ns).γ k ≠ some b:=fun b hp=>by
   refine ⟨Nat.lt_of_lt_of_le (h.fr.block b hp).1 h.fr.size,fun k hk=>?_⟩
   obtain ⟨b',_,h4⟩:=iz G hk
   exact (h.st.box b' b h4).2.1 hp
  have hfar : ∀ k g,trB ns2 k = none→G.γ k = some g→g < w.heap.size∧∀ i,(GhC G ns).γ i ≠ some g:=fun k g hk hγ=>by
   refine ⟨ew h hγ,fun i hi=>?_⟩
   obtain ⟨b',h3,h4⟩:=iz G hi
   have:=h.st.inj k b' g hγ h4
   subst this
   obtain ⟨k',hk'⟩:=zC hsub (nf hNB h3)
   rw [hk] at hk';cases hk'
  have hs : BStep G (lm σ) (GhB G G' ns2) (lm σ2):=⟨hs'.1,fun k hk=>by
   cases hkn : trB ns2 k with
   | some k0 =>
    have hkc:=ne hNB2 hkn
    have sK:=hs'.2 k0 (by have:=kh hkc;omega)
    rcases hold k0 k hkc with hj0 | hj0
    rotate_left
    ·exact .u hj0
    rw [hext k0 k hj0] at sK
    obtain ⟨s1,s2,s3⟩:=sK
    rw [hat k0 k hkc]
    rw [(dt G hj0).1,(dt G hj0).2.1] at s2
    rw [(dt G hj0).1,(dt G hj0).2.1,(dt G hj0).2.2] at s3
    rw [(dt G hj0).1] at s1
    unfold KStep
    rw [(fK G G' hkn).1,(fK G G' hkn).2.1,(fK G G' hkn).2.2]
    refine ⟨fun cs ty e=>?_,fun n e he=>?_,fun cs v e sz he=>?_⟩
    ·rw [e] at s1
     obtain ⟨⟨cs',h1⟩,h2⟩:=s1 _ ty rfl
     exact ⟨⟨_,by rw [h1];rfl⟩,h2⟩
    ·rw [he] at s2
     obtain ⟨n',h1,h2⟩:=s2 n e rfl
     exact ⟨n',by rw [h1];rfl,h2⟩
    ·rw [he] at s3
     obtain ⟨cs',v',h1,h2⟩:=s3 _ v e sz rfl
     exact ⟨_,v',by rw [h1];rfl,h2⟩
   | none=>exact .same (hnot k hk hkn) (gW G G' hkn).1 (gW G G' hkn).2.1 (gW G G' hkn).2.2⟩
  refine ⟨GhB G G' ns2,h.put (x:=ren (dL (bJ 0 ns2)) 4 r) (gi hd) hs ⟨hst'.agree,fun k g hk=>?_,fun k cs ty hk hB=>?_,fun k k' g h1 h2=>?_,hst'.gl⟩ ⟨hw.os,hw.tape,hw.output,hw.size,fun b hp hlt=>hw.block b (hprc b hp) hlt⟩
   (fun b o' hp=>hz' b o' (hprc b hp).1 (hprc b hp).2) (jK (G:=G') (G':=GhB G G' ns2) rfl kG hgb' 4 hv) hslot⟩
  ·cases hkn : trB ns2 k with
   | some k0 =>
    rw [(fK G G' hkn).1] at hk
    obtain ⟨_,h2,h3⟩:=hst'.box _ g hk
    exact ⟨xm hNB2 hkn,fun hp=>h2 (hprc g hp),tL (G:=G') (G':=GhB G G' ns2) rfl kG hgb' h3 (hat k0 k (ne hNB2 hkn)) (fK G G' hkn).2.1 (fK G G' hkn).2.2⟩
   | none =>
    rw [(gW G G' hkn).1] at hk
    obtain ⟨h1,h2,h3⟩:=h.st.box k g hk
    obtain ⟨h4,h5⟩:=hfar k g hkn hk
    exact ⟨h1,h2,h3.step hs (hnot k h1 hkn) (gW G G' hkn).2.1 (gW G G' hkn).2.2 (hw.block g ⟨h4,h5⟩ h4) fun o'=>hz' g o' h4 h5⟩
  ·cases hkn : trB ns2 k with
   | some k0 =>
    rw [hat k0 k (ne hNB2 hkn)] at hB
    have : ∃ cs',bP bs' k0 = .bc cs' ty:=by
     cases hm : bP bs' k0 <;> rw [hm] at hB <;> simp [dq] at hB
     rename_i cs' ty'
     exact ⟨cs',by rw [hB.2]⟩
    obtain ⟨cs',hm⟩:=this
    obtain ⟨g,hγ⟩:=hst'.real _ cs' ty (by have:=kh (ne hNB2 hkn);omega) hm
    exact ⟨g,(fK G G' hkn).1.trans hγ⟩
   | none =>
    rw [hnot k hk hkn] at hB
    obtain ⟨g,hγ⟩:=h.st.real k cs ty hk hB
    exact ⟨g,(gW G G' hkn).1.trans hγ⟩
  ·have mixed : ∀ k k' k0 g,trB ns2 k = some k0→trB ns2 k' = none→(GhB G G' ns2).γ k = some g→(GhB G G' ns2).γ k' = some g→False:=fun k k' k0 g hkn hkn' h1 h2=>by
    rw [(fK G G' hkn).1] at h1
    rw [(gW G G' hkn').1] at h2
    exact (hst'.box _ g h1).2.1 (hfar k' g hkn' h2)
   cases hkn : trB ns2 k with
   | some k0 =>
    cases hkn' : trB ns2 k' with
    | some k1 =>
     rw [(fK G G' hkn).1] at h1
     rw [(fK G G' hkn').1] at h2
     have e:=hst'.inj _ _ g h1 h2
     subst e
     have e1:=ne hNB2 hkn
     have e2:=ne hNB2 hkn'
     rw [e1] at e2;exact Option.some.inj e2
    | none=>exact (mixed k k' k0 g hkn hkn' h1 h2).elim
   | none =>
    cases hkn' : trB ns2 k' with
    | some k1=>exact (mixed k' k k1 g hkn' hkn h2 h1).elim
    | none =>
     rw [(gW G G' hkn).1] at h1
     rw [(gW G G' hkn').1] at h2
     exact h.st.inj k k' g h1 h2
 split
 ·rename_i hlen;exact back ns (.inl rfl) hlen
 ·unfold AH
  split
  ·rename_i d hdst
   refine .rd ?_
   split
   ·rename_i hu
    have hdd : d < 10000:=(gi hd d hdst).2
    refine .need fun ⟨h1,h2⟩=>back _ (.inr ⟨10000 + d,rfl,Nat.le_add_right ..,Nat.lt_trans (Nat.add_lt_add_left hdd 10000) (by decide),hu,by simpa using h1⟩) (by simpa using h2)
   ·exact .fail
  ·exact .fail
theorem oj {P : Program} {w : World} {f : FuncId} {vs : Array Value} (h : aM P f = true) : (callFunc f vs).run P w = .ok (.enter f vs) w:=by
 unfold aM at h
 split at h
 ·rename_i fn hf
  simp only [Bool.and_eq_true,Bool.not_eq_true',beq_eq_false_iff_ne,ne_eq] at h
  obtain ⟨h1,h2⟩:=h
  obtain ⟨c,hc⟩:=Option.isSome_iff_exists.1 h1
  simp [callFunc,hf,h2,hc]
 ·cases h
theorem BE {G : Gh} {B : Nat→AV} {va vb : Array Value} {p q : List AV} (ha : va.size = p.length) (pa : ∀ j (h : j < p.length),VRel G B (va.getD j undef) p[j]) (pb : ∀ j (h : j < q.length),VRel G B (vb.getD j undef) q[j]) :
  ∀ j (h : j < (p ++ q).length),VRel G B ((va ++ vb).getD j undef) (p ++ q)[j]:=fun j hj=>by
 by_cases hlt : j < p.length
 ·have:=pa j hlt
  rw [List.getElem_append_left hlt]
  simpa [Array.getD_eq_getD_getElem?,Array.getElem?_append_left (show j < va.size by omega)] using this
 ·have hj' : j - p.length < q.length:=by simp at hj;omega
  have:=pb (j - p.length) hj'
  rw [List.getElem_append_right (by omega)]
  simpa [Array.getD_eq_getD_getElem?,Array.getElem?_append_right (show va.size≤j by omega),ha] using this
theorem tV {G : Gh} {B : Nat→AV} : ∀ {l : List AV} {xs vs : List Value},xs.length = l.length→(∀ j (h : j < l.length),VRel G B (xs.getD j undef) l[j])→l.mapM gJ = some vs→xs = vs
 | [],xs,vs,hl,_,hm=>by
  simp at hm;subst hm
  simpa using hl
 | x :: l,xs,vs,hl,hr,hm=>by
  cases xs with
  | nil=>simp at hl
  | cons y xs =>
   simp only [List.mapM_cons,Option.bind_eq_bind,Option.bind_eq_some_iff,Option.pure_def,Option.some.injEq] at hm
   obtain ⟨u,hu,us,hus,rfl⟩:=hm
   have h0:=lX (hr 0 (by simp)) hu
   simp at h0
   subst h0
   rw [tV (l:=l) (xs:=xs) (by simpa using hl) (fun j hj=>hr (j + 1) (Nat.succ_lt_succ hj)) hus]
theorem u5 (h : Sim E σ a w G) {tk : FuncId→Bool} {f : Operand} {args : Array Operand} {ts : Array TypeId} (ho : o.op = .call { callee:=.value f,args:=args,argTypes:=ts }) :
  Snd E.P σ (rdo f fun v=>rdos args.toList fun vs=>pg E.P E.N tk o v vs) (d6 E o σ a w) :=
 .rdo h fun v hv=>.rdos h fun ys hl hys=>by
  unfold pg
  split
  ·rename_i fid p q
   obtain ⟨va,vb,ev,ha,hb,pa,pb⟩:=g6 hv
   have hl' : ys.length = args.size:=by simpa using hl
   have hrel:=BE (G:=G) (B:=lm σ) (va:=va ++ args.map a.eval) (vb:=vb) (p:=p ++ ys) (q:=q) (by simp [ha,hl']) (BE ha pa fun j hj=>by
    have hj' : j < args.size:=by omega
    have:=hys j (by simpa using hj') hj
    simpa [Array.getD_eq_getD_getElem?,hj'] using this) pb
   unfold so
   split
   ·refine xb h (vs:=va ++ args.map a.eval ++ vb) (by simp [ha,hb,hl']) hrel fun hok=>?_
    have:=oj (w:=w) (vs:=va ++ args.map a.eval ++ vb) hok
    simp only [execOp,ho,Sem.run_bind,resolve,ev,Deferred.ofValue,Sem.run_pure,Result.andThen_ok,invoke,this]
   ·unfold AF
    split
    ·rename_i vs hvs
     have e1:=tV (xs:=(va ++ args.map a.eval ++ vb).toList) (by simp [ha,hb,hl']) (fun j hj=>by
      have:=hrel j hj
      generalize va ++ args.map a.eval ++ vb = A at this ⊢
      have e : A.toList.getD j undef = A.getD j undef:=by simp [Array.getD_eq_getD_getElem?]
      rw [e];exact this) hvs
     have e2 : va ++ args.map a.eval ++ vb = vs.toArray:=by rw [← e1]
     refine .ex fun r hr=>bU h ?_ (.p (.c r))
     have:=hr w
     rw [← e2] at this
     simp only [execOp,ho,Sem.run_bind,resolve,ev,Deferred.ofValue,Sem.run_pure,Result.andThen_ok,invoke,this]
    ·exact .fail
  ·exact .fail
theorem jz (h : Sim E σ a w G) (tk : FuncId→Bool) (o : Oper) : Snd E.P σ (aop E.P E.N tk o) (d6 E o σ a w):=by
 unfold aop
 split
 next ho=>exact qX h (.inl ho)
 next ho=>exact qX h (.inr ho)
 next ho=>exact xe h ho
 next ho=>exact u2 h ho
 next ho=>exact zt h ho
 next ho=>exact xc h ho
 next ho=>exact vf h ho
 next ho=>exact zw h ho
 next ho=>exact nA h ho
 next ho=>exact u6 h ho
 next ho=>exact nB h ho
 next ho=>exact u9 h ho
 next ho=>exact zr h ho
 next ho=>exact A9 h ho
 next ho=>exact qU h ho
 next ho=>exact u7 h ho
 next ho=>exact qV h ho
 next ho=>exact u4 h ho
 next ho=>exact mZ h ho
 next ho=>exact nC h ho
 next ho=>exact vd h ho
 next ho=>exact qW h ho
 next ho=>exact sW h ho
 next ho=>exact m3 h (.inl ho)
 next ho=>exact m3 h (.inr ho)
 next ho=>exact pJ h ho
 next ho =>
  split
  next h1 h2=>exact zu (ty:=0) h h1 h2 ho
  next=>exact .fail
 next ho =>
  split
  next h1=>exact xd (b:=true) h h1 ho
  next=>exact .fail
 next ho =>
  split
  next h1=>exact xd (b:=false) h h1 ho
  next=>exact .fail
 next ho =>
  split
  next h1 h2=>exact sU (ty:=0) h h1 h2 ho
  next=>exact .fail
 next ho=>exact u5 h ho
 next=>exact .fail
end
end Go.Proofs.YtmpdocplcgbpkaaGreatDoor
namespace Go.Proofs.YtmpdocplcgbpkaaGreatDoor
set_option linter.unusedSimpArgs false
set_option linter.unusedVariables false
open Go.RowKit
def kr (ops : Array Oper) (g : Nat) : Option Nat:=(ops[g]?).bind (·.dst)
theorem wk {b want : Bool} {A B : Prop} (h : if b = want then A else B) : (b = want→A)∧(b = !want→B):=by
 by_cases e : b = want
 ·rw [if_pos e] at h;exact ⟨fun _=>h,fun e'=>by cases want <;> simp_all⟩
 ·rw [if_neg e] at h;exact ⟨fun e'=>absurd e' e,fun _=>h⟩
def gX (P : Program) (N : Nat) (tk : FuncId→Bool) (ops : Array Oper) : List Oper→bv→(bv→Prop)→Prop
 | [],σ,K=>K σ
 | o :: r,σ,K=>match o.guard with
  | none=>(aop P N tk o).wp P σ fun _ d=>gX P N tk ops r (ck σ d) K
  | some (g,want)=>match kr ops g with
   | some t=>t < 10000∧match be σ t with
    | .c (.bool b)=>if b = want then (aop P N tk o).wp P (cC σ t (.c (.bool want))) fun _ d=>gX P N tk ops r (ck (cC σ t (.c (.bool want))) d) K
      else c9 N o∧gX P N tk ops r (ck (cC σ t (.c (.bool (!want)))) (dn o (.c undef))) K
    | .c (.tuple _)=>c9 N o∧gX P N tk ops r (ck σ (dn o (.c undef))) K
    | _=>False
   | none=>False
section
variable {E : Env} {σ : bv} {a : Act} {w : World} {G : Gh}
theorem Sim.same (h : Sim E σ a w G) {t : Nat} {v : AV} (ht : t < 10000) (hv : be σ t = v) : Sim E (cC σ t v) a w G:=by
 have hm : ∀ k,be (cC σ t v) k = be σ k:=fun k=>by
  rw [bO];split
  ·rename_i e;rw [← hv,e]
  ·rfl
 have hl : lm (cC σ t v) = lm σ:=by unfold lm;rw [show be (cC σ t v) = be σ from funext hm]
 have hs : BStep G (lm σ) G (lm (cC σ t v)):=.congr fun k _=>by rw [hl]
 exact ⟨h.defers,h.tsize,fun k hk=>by rw [hm];exact (h.slots k hk).step hs,h.st.congr fun k _=>by rw [hl],h.fr,h.step.trans hs,h.zp⟩
theorem kj (h : Sim E σ a w G) {ops : Array Oper} {g t : Nat} {b : Bool} (hd : kr ops g = some t) (ht : t < 10000) (hv : be σ t = .c (.bool b)) : yielded ops a.tmps g = some b:=by
 have h1:=h.slots t ht
 rw [hv] at h1
 have h2:=cI h1
 unfold kr at hd
 unfold yielded
 rw [hd]
 simp only [Option.bind_some]
 rw [Array.getD_eq_getD_getElem?] at h2
 cases h3 : a.tmps[t]? with
 | none=>rw [h3] at h2;simp [undef] at h2
 | some x=>rw [h3] at h2;simp at h2;rw [h2]
theorem lP (h : Sim E σ a w G) {ops : Array Oper} {g t : Nat} {vs : Array Value} (hd : kr ops g = some t) (ht : t < 10000) (hv : be σ t = .c (.tuple vs)) : yielded ops a.tmps g = none:=by
 have h1:=h.slots t ht
 rw [hv] at h1
 have h2:=cI h1
 unfold kr at hd
 unfold yielded
 rw [hd]
 simp only [Option.bind_some]
 rw [Array.getD_eq_getD_getElem?] at h2
 cases h3 : a.tmps[t]? with
 | none=>rfl
 | some x=>rw [h3] at h2;simp at h2;rw [h2]
theorem jE (h : Sim E σ a w G) {o : Oper} (hd : c9 E.N o) : Sim E (ck σ (dn o (.c undef))) (a.put o.dst undef) w G :=
 h.put (x:=.c undef) (gi hd) (.congr (gT hd _)) (h.st.congr (gT hd _)) (.refl _ _) (fun _ _ _=>rfl) (.p (.c _)) fun t _=>fq t
theorem gz {tk : FuncId→Bool} {ops : Array Oper} {K : bv→Prop} {Q : Exit→Act→World→Prop} (hQ : ∀ σ' a' w' G',K σ'→Sim E σ' a' w' G'→Q .normal a' w') :
  ∀ {l : List Oper} {σ : bv} {a : Act} {w : World} {G : Gh},gX E.P E.N tk ops l σ K→Sim E σ a w G→wpList E.P ops Q l a w
 | [],σ,a,w,G,h,hs=>hQ _ _ _ _ h hs
 | o :: r,σ,a,w,G,h,hs=>by
  unfold gX at h
  split at h
  ·rename_i hg
   obtain ⟨R,d,hK,hgood⟩:=jz hs tk o _ h
   refine wpList_plain hg fun K' hK'=>Oper.wp_mono (fun a' w' ⟨G',hG'⟩=>hK' a' w' (gz hQ hK hG')) (hgood Q)
  ·rename_i g want hg
   split at h
   ·rename_i t ht
    obtain ⟨ht',h⟩:=h
    split at h
    ·rename_i b hb
     have h:=wk h
     have hy:=kj hs ht ht' hb
     by_cases hbw : b = want
     ·subst hbw
      have hs':=hs.same ht' hb
      obtain ⟨R,d,hK,hgood⟩:=jz hs' tk o _ (h.1 rfl)
      refine wpList_step fun K' hK'=>?_
      rw [if_pos (by simp [Region.wanted,hg,hy])]
      exact Oper.wp_mono (fun a' w' ⟨G',hG'⟩=>hK' a' w' (gz hQ hK hG')) (hgood Q)
     ·have hbn : b = !want:=by cases b <;> cases want <;> simp_all
      obtain ⟨hd,h2⟩:=h.2 hbn
      have hs':=hs.same ht' (hbn ▸ hb)
      refine wpList_step fun K' hK'=>?_
      rw [if_neg (by simp [Region.wanted,hg,hy,hbw])]
      exact hK' _ _ (gz hQ h2 (jE hs' hd))
    ·rename_i vs hb
     have hy:=lP hs ht ht' hb
     refine wpList_step fun K' hK'=>?_
     rw [if_neg (by simp [Region.wanted,hg,hy])]
     exact hK' _ _ (gz hQ h.2 (jE hs h.1))
    ·exact h.elim
   ·exact h.elim
end
def aw (E : Env) (c : Code) (Q : Exit→bv→Prop) (σ : bv) : Prop :=
 ∀ a w G,Sim E σ a w G→c.wp E.P (fun e a' w'=>∃ σ' G',Q e σ'∧Sim E σ' a' w' G') a w
def lM (K : bv→Prop) (Q : Exit→bv→Prop) : Exit→bv→Prop
 | .normal,σ=>K σ
 | e,σ=>Q e σ
def j1 (id : Nat) (Q : Exit→bv→Prop) : Exit→bv→Prop
 | .exit i,σ=>if i = id then Q .normal σ else Q (.exit i) σ
 | e,σ=>Q e σ
def Ac (P : Program) (c : Code) (Q : Exit→Act→World→Prop) (a : Act) (w : World) : Prop :=
 ∀ (b : Frame) (k : List Item) (cs : List Frame),∃ e a' w',Q e a' w'∧Arrives P (lone (b.at a (.code c :: .inLoop c :: k)) cs w) b k cs e a' w'
def awl (E : Env) (c : Code) (Q : Exit→bv→Prop) (σ : bv) : Prop :=
 ∀ a w G,Sim E σ a w G→Ac E.P c (fun e a' w'=>∃ σ' G',Q e σ'∧Sim E σ' a' w' G') a w
section
variable {E : Env} {Q : Exit→bv→Prop} {σ : bv}
theorem aj {x y : Code} (h : aw E x (lM (aw E y Q) Q) σ) : aw E (.seq x y) Q σ:=fun a w G hs=>by
 refine wp_seq (Code.wp_mono (fun e a' w' ⟨σ',G',h1,h2⟩=>?_) (h a w G hs))
 cases e with
 | normal=>exact h1 a' w' G' h2
 | _=>exact ⟨σ',G',h1,h2⟩
theorem al {id : Nat} {c : Code} (h : aw E c (j1 id Q) σ) : aw E (.block id c) Q σ:=fun a w G hs=>by
 refine wp_block (Code.wp_mono (fun e a' w' ⟨σ',G',h1,h2⟩=>?_) (h a w G hs))
 cases e with
 | exit i =>
  simp only [j1] at h1
  simp only [Exit.inBlock]
  split
  ·rename_i e;rw [if_pos e] at h1;exact ⟨σ',G',h1,h2⟩
  ·rename_i e;rw [if_neg e] at h1;exact ⟨σ',G',h1,h2⟩
 | _=>exact ⟨σ',G',h1,h2⟩
theorem av (h : Q .normal σ) : aw E .skip Q σ:=fun a w G hs=>wp_skip ⟨σ,G,h,hs⟩
theorem au (h : Q .ret σ) : aw E .ret Q σ:=fun a w G hs=>wp_ret ⟨σ,G,h,hs⟩
theorem bf {id : Nat} (h : Q (.exit id) σ) : aw E (.exit id) Q σ:=fun a w G hs=>wp_exit ⟨σ,G,h,hs⟩
theorem xL {t : Nat} {b : Bool} {x y : Code} (ht : t < 10000) (hb : be σ t = .c (.bool b)) (h1 : b = true→aw E x Q σ) (h2 : b = false→aw E y Q σ) : aw E (.cond (.tmp t) x y) Q σ:=fun a w G hs=>by
 have h3:=hs.slots t ht
 rw [hb] at h3
 exact wp_cond_split (cI h3) (fun e=>h1 e a w G hs) (fun e=>h2 e a w G hs)
theorem un (tk : FuncId→Bool) {id : Nat} {l : List Oper} (h : ∀ K : bv→Prop,(∀ σ',Q .normal σ'→K σ')→gX E.P E.N tk l.toArray l σ K) : aw E (.region id l.toArray false) Q σ:=fun a w G hs =>
 wp_region_lit (gz (fun σ' a' w' G' h1 h2=>⟨σ',G',h1,h2⟩) (h _ fun _ h=>h) hs)
theorem bG {c : Code} (h : awl E c Q σ) : aw E (.loop c) Q σ:=fun a w G hs b k cs=>by
 obtain ⟨e,a',w',hq,harr⟩:=h a w G hs b k cs
 exact ⟨e,a',w',hq,.of_steps (.one step_loop) harr⟩
theorem fm {c : Code} (h : aw E c (lM (awl E c Q) Q) σ) : awl E c Q σ:=fun a w G hs b k cs=>by
 obtain ⟨e,a₁,w₁,⟨σ',G',hq,hs'⟩,harr⟩:=h a w G hs b (.inLoop c :: k) cs
 cases e with
 | normal =>
  obtain ⟨e₂,a₂,w₂,hq₂,harr₂⟩:=hq a₁ w₁ G' hs' b k cs
  exact ⟨e₂,a₂,w₂,hq₂,.of_steps (Steps.trans harr (.one step_inLoop)) harr₂⟩
 | _=>exact ⟨_,a₁,w₁,⟨σ',G',hq,hs'⟩,.pass (x:=.inLoop c) rfl (fun _ _=>.inl (by simp)) harr⟩
def ALe (E : Env) (σ σ' : bv) : Prop:=∀ a w G,Sim E σ a w G→∃ G',Sim E σ' a w G'
theorem gn {σ' : bv} {c : Code} (hl : ALe E σ σ') (h : aw E c Q σ') : aw E c Q σ:=fun a w G hs=>by
 obtain ⟨G',hs'⟩:=hl a w G hs
 exact h a w G' hs'
theorem eu {σ' : bv} {c : Code} (hl : ALe E σ σ') (h : awl E c Q σ') : awl E c Q σ:=fun a w G hs=>by
 obtain ⟨G',hs'⟩:=hl a w G hs
 exact h a w G' hs'
def gF (L : List Nat) : bv→bv
 | []=>[]
 | (k,v) :: r=>if k < 10000∧L.contains k = false then gF L r else (k,v) :: gF L r
theorem gE (L : List Nat) (k : Nat) : ∀ σ : bv,be (gF L σ) k = be σ k∨(be (gF L σ) k = .u∧k < 10000)
 | []=>.inl rfl
 | (i,v) :: r=>by
  unfold gF
  split
  ·rename_i hc
   by_cases e : i = k
   ·subst e
    rcases gE L i r with h | h
    ·have : be (gF L r) i = .u:=mkeep_none L i hc r
     exact .inr ⟨this,hc.1⟩
    ·exact .inr h
   ·rcases gE L k r with h | h
    ·left;simp only [be,if_neg e];exact h
    ·exact .inr h
  ·simp only [be]
   split
   ·exact .inl rfl
   ·exact gE L k r
where
 mkeep_none (L : List Nat) (i : Nat) (hc : i < 10000∧L.contains i = false) : ∀ r : bv,be (gF L r) i = .u
  | []=>rfl
  | (j,v) :: r=>by
   unfold gF
   split
   ·exact mkeep_none L i hc r
   ·rename_i h
    simp only [be]
    rw [if_neg (fun e : j = i=>h (e ▸ hc))]
    exact mkeep_none L i hc r
theorem vD (L : List Nat) (σ : bv) : ALe E σ (gF L σ):=fun a w G hs=>by
 have hb : ∀ k,10000≤k→be (gF L σ) k = be σ k:=fun k hk=>(gE L k σ).resolve_right fun h=>by omega
 have hb : ∀ k,10000≤k→lm (gF L σ) k = lm σ k:=mG fun k hk _=>hb k hk
 have hst : BStep G (lm σ) G (lm (gF L σ)):=.congr hb
 refine ⟨G,hs.defers,hs.tsize,fun t ht=>?_,hs.st.congr hb,hs.fr,hs.step.trans hst,hs.zp⟩
 rcases gE L t σ with h | ⟨h,_⟩
 ·rw [h];exact (hs.slots t ht).step hst
 ·rw [h];exact .p (.u _)
end
end Go.Proofs.YtmpdocplcgbpkaaGreatDoor
namespace Go.Proofs.YtmpdocplcgbpkaaGreatDoor
set_option linter.unusedSimpArgs false
set_option linter.unusedVariables false
open Go.RowKit
abbrev Rec:=List Nat × List (Nat × AV)
def i4 : List (Nat × AV)→Nat→Option AV
 | [],_=>none
 | (k,v) :: r,i=>match i4 r i with
  | some x=>some x
  | none=>if k = i then some v else none
theorem iq (d : List (Nat × AV)) : ∀ (σ : bv) (k : Nat),be (ck σ d) k = (i4 d k).getD (be σ k):=by
 induction d with
 | nil=>intro σ k;rfl
 | cons p r ih =>
  obtain ⟨i,v⟩:=p
  intro σ k
  show be (ck (cC σ i v) r) k = _
  rw [ih,bO]
  simp only [i4]
  cases i4 r k with
  | some x=>rfl
  | none=>simp only [Option.getD_none];split <;> rfl
def qg (F : Nat→AV) (d : List (Nat × AV)) : Nat→AV:=fun k=>(i4 d k).getD (F k)
theorem lookD_mem : ∀ {d : List (Nat × AV)} {k : Nat},(i4 d k).isSome = true ↔ k ∈ d.map (·.1)
 | [],k=>by simp [i4]
 | (i,v) :: r,k=>by
  have ih:=lookD_mem (d:=r) (k:=k)
  simp only [i4,List.map_cons,List.mem_cons]
  cases h : i4 r k with
  | some x=>rw [h] at ih;simp at ih ⊢;exact .inr ih
  | none =>
   rw [h] at ih
   simp only [Option.isSome_none,Bool.false_eq_true,false_iff] at ih
   by_cases e : i = k
   ·simp [e]
   ·rw [if_neg e];simp [ih];exact fun h=>e h.symm
theorem j7 {d : List (Nat × AV)} {k : Nat} (h : k ∉ d.map (·.1)) : i4 d k = none:=by
 cases h' : i4 d k with
 | none=>rfl
 | some x=>exact absurd (lookD_mem.1 (by rw [h'];rfl)) h
theorem mJ {d : List (Nat × AV)} {k : Nat} (h : k ∈ d.map (·.1)) : ∃ x,i4 d k = some x:=Option.isSome_iff_exists.1 (lookD_mem.2 h)
def fj (P : Program) (N : Nat) (tk : FuncId→Bool) (ops : Array Oper) : List Oper→bv→List Rec→(bv→List Rec→Prop)→Prop
 | [],σ,acc,K=>K σ acc
 | o :: r,σ,acc,K=>match o.guard with
  | none=>(aop P N tk o).wp P σ fun R d=>fj P N tk ops r (ck σ d) (acc ++ [(R,d)]) K
  | some (g,want)=>match kr ops g with
   | some t=>t < 10000∧match be σ t with
    | .c (.bool b)=>if b = want then (aop P N tk o).wp P (cC σ t (.c (.bool want))) fun R d=>fj P N tk ops r (ck (cC σ t (.c (.bool want))) d) (acc ++ [(t :: R,d)]) K
      else c9 N o∧fj P N tk ops r (ck (cC σ t (.c (.bool (!want)))) (dn o (.c undef))) (acc ++ [([t],dn o (.c undef))]) K
    | .c (.tuple _)=>c9 N o∧fj P N tk ops r (ck σ (dn o (.c undef))) (acc ++ [([t],dn o (.c undef))]) K
    | _=>False
   | none=>False
section
variable {E : Env}
theorem Sim.ext {σ σ' : bv} {a : Act} {w : World} {G : Gh} (h : Sim E σ a w G) (he : ∀ k,be σ' k = be σ k) : Sim E σ' a w G:=by
 exact h.ext' he
def oJ (E : Env) (ops : Array Oper) (o : Oper) (F : Nat→AV) (x : Rec) : Prop :=
 ∀ σ,(∀ k ∈ x.1,be σ k = F k)→∀ a w G (K' : Act→World→Prop) (Q : Exit→Act→World→Prop),Sim E σ a w G→(∀ a' w' G',Sim E (ck σ x.2) a' w' G'→K' a' w') →
  if Region.wanted o (yielded ops a.tmps) then o.wp E.P a w K' Q else K' (a.put o.dst undef) w
def iY (F : Nat→AV) (l : List Rec) : Nat→AV:=l.foldl (fun F x=>qg F x.2) F
theorem lv {tk : FuncId→Bool} {ops : Array Oper} {K : bv→List Rec→Prop} : ∀ {l : List Oper} {σ : bv} {acc : List Rec} (hsim : True),fj E.P E.N tk ops l σ acc K →
  ∃ recs σ',K σ' (acc ++ recs)∧recs.length = l.length∧(∀ i (h1 : i < l.length) (h2 : i < recs.length),oJ E ops l[i] (iY (be σ) (recs.take i)) recs[i])∧∀ k,be σ' k = iY (be σ) recs k
 | [],σ,acc,_,h=>⟨[],σ,by have h' : K σ acc:=h;simpa using h',rfl,fun i h1=>by simp at h1,fun k=>rfl⟩
 | o :: r,σ,acc,_,h=>by
  have cont : ∀ (σ1 : bv) (x : Rec),(∀ k,be σ1 k = qg (be σ) x.2 k)→oJ E ops o (be σ) x→fj E.P E.N tk ops r σ1 (acc ++ [x]) K →
    ∃ recs σ',K σ' (acc ++ recs)∧recs.length = (o :: r).length∧(∀ i (h1 : i < (o :: r).length) (h2 : i < recs.length),oJ E ops (o :: r)[i] (iY (be σ) (recs.take i)) recs[i])∧∀ k,be σ' k = iY (be σ) recs k:=fun σ1 x h1 h2 h3=>by
   obtain ⟨recs,σ',k1,k2,k3,k4⟩:=lv (l:=r) trivial h3
   have hf : be σ1 = qg (be σ) x.2:=funext h1
   refine ⟨x :: recs,σ',by simpa using k1,by simp [k2],fun i h4 h5=>?_,fun k=>?_⟩
   ·cases i with
    | zero=>exact h2
    | succ i =>
     have:=k3 i (by simpa using h4) (by simpa using h5)
     rw [hf] at this
     exact this
   ·rw [k4,hf];rfl
  unfold fj at h
  split at h
  ·rename_i hg
   obtain ⟨R,d,h1,h2⟩:=TR.frame h
   refine cont _ (R,d) (fun k=>iq d σ k) (fun σ' hσ a w G K' Q hs hK'=>?_) h1
   obtain ⟨R',d',⟨_,rfl⟩,hgood⟩:=jz hs tk o _ (h2 σ' hσ)
   rw [if_pos (by simp [Region.wanted,hg])]
   exact Oper.wp_mono (fun a' w' ⟨G',hG'⟩=>hK' a' w' G' hG') (hgood Q)
  ·rename_i g want hg
   split at h
   ·rename_i t ht
    obtain ⟨ht',h⟩:=h
    split at h
    ·rename_i b hb
     have h:=wk h
     have same : ∀ v,v = AV.c (.bool b)→∀ k,be (cC σ t v) k = be σ k:=fun v hv k=>by
      rw [bO];split
      ·rename_i e;subst e;rw [hb,hv]
      ·rfl
     by_cases hbw : b = want
     ·subst hbw
      obtain ⟨R,d,h1,h2⟩:=TR.frame (h.1 rfl)
      refine cont _ (t :: R,d) (fun k=>by rw [iq,same _ rfl];rfl) (fun σ' hσ a w G K' Q hs hK'=>?_) h1
      have hy:=kj hs ht ht' ((hσ t (by simp)).trans hb)
      obtain ⟨R',d',⟨_,rfl⟩,hgood⟩:=jz hs tk o _ (h2 σ' fun k hk=>(hσ k (by simp [hk])).trans (same _ rfl k).symm)
      rw [if_pos (by simp [Region.wanted,hg,hy])]
      exact Oper.wp_mono (fun a' w' ⟨G',hG'⟩=>hK' a' w' G' hG') (hgood Q)
     ·have hbn : b = !want:=by cases b <;> cases want <;> simp_all
      obtain ⟨hd,h2⟩:=h.2 hbn
      refine cont _ ([t],dn o (.c undef)) (fun k=>by rw [iq,same _ (by rw [hbn])];rfl) (fun σ' hσ a w G K' Q hs hK'=>?_) h2
      have hy:=kj hs ht ht' ((hσ t (by simp)).trans hb)
      rw [if_neg (by simp [Region.wanted,hg,hy,hbw])]
      exact hK' _ _ _ (jE hs hd)
    ·rename_i vs hb
     refine cont _ ([t],dn o (.c undef)) (fun k=>iq _ σ k) (fun σ' hσ a w G K' Q hs hK'=>?_) h.2
     have hy:=lP hs ht ht' ((hσ t (by simp)).trans hb)
     rw [if_neg (by simp [Region.wanted,hg,hy])]
     exact hK' _ _ _ (jE hs h.1)
    ·exact h.elim
   ·exact h.elim
def qC (a b : List Nat) : Bool:=a.any fun x=>b.contains x
def fM (x y : Rec) : Bool:=qC (x.2.map (·.1)) y.1 || qC x.1 (y.2.map (·.1)) || qC (x.2.map (·.1)) (y.2.map (·.1))
def zQ (anc : List (List Nat)) (o : Oper) : List Nat:=o.after.toList.flatMap fun e=>if Region.binds .any e then e.on :: anc.getD e.on [] else []
def xH : List Oper→List (List Nat)→List (List Nat)
 | [],anc=>anc
 | o :: r,anc=>xH r (anc ++ [zQ anc o])
def j2 (ops : List Oper) (recs : List Rec) : Bool :=
 (ops.zipIdx.all fun p=>p.1.after.toList.all fun e=>!Region.binds .any e || decide (e.on < p.2)) &&
 (List.range ops.length).all fun j=>(List.range j).all fun i=>!fM (recs.getD i ([],[])) (recs.getD j ([],[])) || ((xH ops []).getD j []).contains i
inductive pX (ops : List Oper) : Nat→Nat→Prop
 | edge (i j : Nat) (o : Oper) (e : Edge) (ho : ops[j]? = some o) (he : e ∈ o.after) (hb : Region.binds .any e = true) (hi : e.on = i) : pX ops i j
 | more (i j : Nat) (o : Oper) (e : Edge) (ho : ops[j]? = some o) (he : e ∈ o.after) (hb : Region.binds .any e = true) (hp : pX ops i e.on) : pX ops i j
theorem nG {ops : List Oper} : ∀ {l done : List Oper} {acc : List (List Nat)},ops = done ++ l→acc.length = done.length→(∀ j i,i ∈ acc.getD j []→pX ops i j)→∀ j i,i ∈ (xH l acc).getD j []→pX ops i j
 | [],done,acc,_,_,h=>h
 | o :: r,done,acc,ho,hl,h=>by
  refine nG (l:=r) (done:=done ++ [o]) (by rw [ho];simp) (by simp [hl]) fun j i hi=>?_
  rcases Nat.lt_trichotomy j acc.length with hj | hj | hj
  ·rw [List.getD_eq_getElem?_getD,List.getElem?_append_left hj] at hi
   exact h j i (by rw [List.getD_eq_getElem?_getD];exact hi)
  ·have hoj : ops[j]? = some o:=by rw [ho,hj,hl];simp
   rw [List.getD_eq_getElem?_getD,hj,List.getElem?_append_right (Nat.le_refl _)] at hi
   simp only [Nat.sub_self,List.getElem?_cons_zero,Option.getD_some] at hi
   unfold zQ at hi
   obtain ⟨e,he,hi⟩:=List.mem_flatMap.1 hi
   split at hi
   ·rename_i hb
    rcases List.mem_cons.1 hi with rfl | hi
    ·exact .edge _ j o e hoj (by simpa using he) hb rfl
    ·exact .more i j o e hoj (by simpa using he) hb (h e.on i hi)
   ·simp at hi
  ·rw [List.getD_eq_getElem?_getD,List.getElem?_eq_none (by simp;omega)] at hi
   simp at hi
section order
variable {E : Env} {ops : Array Oper} {recs : List Rec} {F : Nat→AV}
def part (F : Nat→AV) (recs : List Rec) (D : Nat→Bool) : Nat→Nat→AV
 | 0=>F
 | m + 1=>if D m then qg (part F recs D m) (recs.getD m ([],[])).2 else part F recs D m
def tW (recs : List Rec) (i : Nat) : List Nat:=(recs.getD i ([],[])).2.map (·.1)
theorem jJ {D D' : Nat→Bool} {k : Nat} : ∀ {m : Nat},(∀ i,i < m→k ∈ tW recs i→D i = D' i)→part F recs D m k = part F recs D' m k
 | 0,_=>rfl
 | m + 1,h=>by
  have ih:=jJ (m:=m) fun i hi hk=>h i (by omega) hk
  by_cases hk : k ∈ tW recs m
  ·have e:=h m (by omega) hk
   simp only [part,e]
   split
   ·obtain ⟨x,hx⟩:=mJ hk
    simp only [qg,hx,Option.getD_some]
   ·exact ih
  ·have hn:=j7 hk
   simp only [part]
   split <;> split <;> (try simp only [qg,hn,Option.getD_none]) <;> exact ih
theorem li {D : Nat→Bool} {k : Nat} {j : Nat} : ∀ {m : Nat},j≤m→(∀ i,j≤i→i < m→D i = true→k ∉ tW recs i)→part F recs D m k = part F recs D j k
 | 0,hj,_=>by obtain rfl : j = 0:=(by omega);rfl
 | m + 1,hj,h=>by
  by_cases e : j = m + 1
  ·rw [e]
  ·have ih:=li (m:=m) (by omega) fun i h1 h2 h3=>h i h1 (by omega) h3
   simp only [part]
   split
   ·rename_i hd
    simp only [qg,j7 (h m (by omega) (by omega) hd),Option.getD_none];exact ih
   ·exact ih
theorem mS : ∀ {m : Nat},m≤recs.length→part F recs (fun _=>true) m = iY F (recs.take m)
 | 0,_=>rfl
 | m + 1,h=>by
  rw [List.take_succ_eq_append_getElem (by omega)]
  simp only [iY,List.foldl_append,List.foldl_cons,List.foldl_nil,part,if_true]
  rw [mS (m:=m) (by omega),List.getD_eq_getElem?_getD,List.getElem?_eq_getElem (by omega)]
  rfl
theorem meets_iff {a b : List Nat} : qC a b = true ↔ ∃ x,x ∈ a∧x ∈ b:=by simp [qC]
theorem uk (hlen : recs.length = ops.size) (hok : j2 ops.toList recs = true) {Q : Exit→Act→World→Prop} (hstep : ∀ i (h1 : i < ops.size) (h2 : i < recs.length),oJ E ops ops[i] (iY F (recs.take i)) recs[i])
  (hQ : ∀ σ a w G,(∀ k,be σ k = iY F recs k)→Sim E σ a w G→Q .normal a w) :
  ∀ (fuel : Nat) (listed : Array Bool) (σ : bv) (a : Act) (w : World) (G : Gh),listed.size = ops.size→((List.range ops.size).filter fun i=>!listed.getD i false).length≤fuel →
   (∀ j o e,listed.getD j false = true→ops[j]? = some o→e ∈ o.after→Region.binds .any e = true→listed.getD e.on false = true) →
   (∀ k,be σ k = part F recs (fun i=>listed.getD i false) ops.size k)→Sim E σ a w G→wpAny E.P .any ops Q fuel listed a w:=by
 have hok':=hok
 simp only [j2,Bool.and_eq_true,List.all_eq_true,List.mem_range,Bool.or_eq_true,Bool.not_eq_true',decide_eq_true_eq] at hok'
 obtain ⟨hdown,hconf⟩:=hok'
 have hpath : ∀ j i,i ∈ (xH ops.toList []).getD j []→pX ops.toList i j:=nG (done:=[]) rfl rfl fun j i h=>by simp at h
 have hconf' : ∀ i j,i < j→j < ops.size→fM (recs.getD i ([],[])) (recs.getD j ([],[])) = true→pX ops.toList i j:=fun i j hij hj hc=>by
  rcases hconf j (by simpa using hj) i hij with h | h
  ·rw [h] at hc;cases hc
  ·exact hpath j i (by simpa using h)
 have closed : ∀ (listed : Array Bool),(∀ j o e,listed.getD j false = true→ops[j]? = some o→e ∈ o.after→Region.binds .any e = true→listed.getD e.on false = true) →
   ∀ i j,pX ops.toList i j→(∀ o,ops[j]? = some o→∀ e ∈ o.after,Region.binds .any e = true→listed.getD e.on false = true)→listed.getD i false = true:=fun listed hcl i j hp=>by
  induction hp with
  | edge j o e ho he hb hi=>intro h;rw [← hi];exact h o (by simpa using ho) e he hb
  | more j o e ho he hb hp ih =>
   intro h
   have h1:=h o (by simpa using ho) e he hb
   exact ih fun o' ho' e' he' hb'=>hcl e.on o' e' h1 ho' he' hb'
 have ready_nil : ∀ (listed : Array Bool),listed.size = ops.size→Region.ready .any ops listed = []→∀ i,i < ops.size→listed.getD i false = true:=fun listed hsz hr i=>by
  induction i using Nat.strongRecOn with
  | _ i ih =>
   intro hi
   cases h : listed.getD i false with
   | true=>rfl
   | false =>
    exfalso
    have : i ∈ Region.ready .any ops listed:=by
     rw [mem_ready]
     refine ⟨?_,ops[i],by simp [hi],fun e he hb=>?_⟩
     ·rw [Array.getD_eq_getD_getElem?] at h ⊢
      have : i < listed.size:=by omega
      rw [Array.getElem?_eq_getElem this] at h ⊢
      exact h
     ·have h1:=hdown (ops[i],i) (by
       rw [List.mem_zipIdx_iff_getElem?];simp [hi]) e (by simpa using he)
      rcases h1 with h1 | h1
      ·rw [hb] at h1;cases h1
      ·exact ih e.on h1 (by omega)
    rw [hr] at this;cases this
 have final : ∀ (listed : Array Bool) (σ : bv) (a : Act) (w : World) (G : Gh),listed.size = ops.size→(∀ k,be σ k = part F recs (fun i=>listed.getD i false) ops.size k)→Sim E σ a w G→Region.ready .any ops listed = []→Q .normal a w:=fun listed σ a w G hsz hσ hs hr=>by
  refine hQ σ a w G (fun k=>?_) hs
  rw [hσ,jJ (D':=fun _=>true) fun i hi _=>ready_nil listed hsz hr i hi,mS (by omega),← hlen,List.take_length]
 intro fuel
 induction fuel with
 | zero =>
  intro listed σ a w G hsz hcount hcl hσ hs
  have hr : Region.ready .any ops listed = []:=by
   apply List.eq_nil_iff_forall_not_mem.2
   intro j hj
   rw [mem_ready] at hj
   obtain ⟨h1,o,ho,_⟩:=hj
   have hlt:=(Array.getElem?_eq_some_iff.1 ho).1
   have h2 : ((List.range ops.size).filter fun i=>!listed.getD i false) = []:=List.eq_nil_of_length_eq_zero (by omega)
   have h3 : j ∈ ((List.range ops.size).filter fun i=>!listed.getD i false):=by
    rw [List.mem_filter]
    refine ⟨by simpa using hlt,?_⟩
    have h4 : j < listed.size:=by omega
    rw [Array.getD_eq_getD_getElem?,Array.getElem?_eq_getElem h4] at h1 ⊢
    simpa using h1
   rw [h2] at h3;cases h3
  exact ⟨hr,final listed σ a w G hsz hσ hs hr⟩
 | succ fuel ih =>
  intro listed σ a w G hsz hcount hcl hσ hs
  refine ⟨final listed σ a w G hsz hσ hs,fun j hj=>?_⟩
  rw [mem_ready] at hj
  obtain ⟨h1,o,ho,hpre⟩:=hj
  have hlt:=(Array.getElem?_eq_some_iff.1 ho).1
  have hoj : ops[j] = o:=(Array.getElem?_eq_some_iff.1 ho).2
  have hD : listed.getD j false = false:=by
   have h4 : j < listed.size:=by omega
   rw [Array.getD_eq_getD_getElem?,Array.getElem?_eq_getElem h4] at h1 ⊢
   exact h1
  have hrec : recs.getD j ([],[]) = recs[j]:=by rw [List.getD_eq_getElem?_getD,List.getElem?_eq_getElem (by omega)];rfl
  have early : ∀ i,i < j→fM (recs.getD i ([],[])) (recs.getD j ([],[])) = true→listed.getD i false = true:=fun i hij hc =>
   closed listed hcl i j (hconf' i j hij hlt hc) fun o' ho' e he hb=>by rw [ho] at ho';cases ho';exact hpre e he hb
  have late : ∀ i,j < i→i < ops.size→listed.getD i false = true→fM (recs.getD j ([],[])) (recs.getD i ([],[])) = true→False:=fun i hji hi hdi hc=>by
   have:=closed listed hcl j i (hconf' j i hji hi hc) fun o' ho' e he hb=>hcl i o' e hdi ho' he hb
   rw [hD] at this;cases this
  have hread : ∀ k ∈ (recs[j]'(by omega)).1,be σ k = iY F (recs.take j) k:=fun k hk=>by
   rw [hσ,← mS (by omega),li (j:=j) (by omega),jJ (D':=fun _=>true)]
   ·intro i hi hw
    refine early i hi ?_
    simp only [fM,Bool.or_eq_true]
    exact .inl (.inl (meets_iff.2 ⟨k,hw,by rw [hrec];exact hk⟩))
   ·intro i h5 h6 h7 hw
    by_cases e : i = j
    ·subst e;rw [hD] at h7;cases h7
    ·refine late i (by omega) h6 h7 ?_
     simp only [fM,Bool.or_eq_true]
     exact .inl (.inr (meets_iff.2 ⟨k,by rw [hrec];exact hk,hw⟩))
  have hst:=hstep j hlt (by omega)
  rw [hoj] at hst
  have next : ∀ a' w' G',Sim E (ck σ (recs[j]'(by omega)).2) a' w' G'→wpAny E.P .any ops Q fuel (listed.setIfInBounds j true) a' w':=fun a' w' G' hs'=>by
   have hset : ∀ i,(listed.setIfInBounds j true).getD i false = if i = j then true else listed.getD i false:=fun i=>by
    by_cases e : i = j
    ·subst e;rw [if_pos rfl,Array.getD_eq_getD_getElem?,Array.getElem?_setIfInBounds_self_of_lt (by omega)];rfl
    ·rw [if_neg e,getD_set_ne false (fun h=>e h.symm)]
   refine ih (listed.setIfInBounds j true) _ a' w' G' (by simpa using hsz) ?_ (fun i o' e hi ho' he hb=>?_) (fun k=>?_) hs'
   ·have hmem : j ∈ (List.range ops.size).filter fun i=>!listed.getD i false:=by
     rw [List.mem_filter];exact ⟨by simpa using hlt,by rw [hD];rfl⟩
    have hsub : ((List.range ops.size).filter fun i=>!(listed.setIfInBounds j true).getD i false) = ((List.range ops.size).filter fun i=>!listed.getD i false).filter (fun i=>i != j):=by
     rw [List.filter_filter]
     apply List.filter_congr
     intro i _
     rw [hset]
     by_cases e : i = j <;> simp [e]
    rw [hsub]
    have : (((List.range ops.size).filter fun i=>!listed.getD i false).filter (fun i=>i != j)).length < ((List.range ops.size).filter fun i=>!listed.getD i false).length:=by
     apply List.length_filter_lt_length_iff_exists.2
     exact ⟨j,hmem,by simp⟩
    omega
   ·rw [hset]
    by_cases e2 : e.on = j
    ·rw [if_pos e2]
    ·rw [if_neg e2]
     rw [hset] at hi
     by_cases e3 : i = j
     ·subst e3;rw [ho] at ho';cases ho';exact hpre e he hb
     ·rw [if_neg e3] at hi;exact hcl i o' e hi ho' he hb
   ·rw [iq,hσ]
    by_cases hk : k ∈ tW recs j
    ·obtain ⟨x,hx⟩:=mJ hk
     rw [hrec] at hx
     rw [hx,Option.getD_some]
     have e1:=li (F:=F) (recs:=recs) (D:=fun i=>(listed.setIfInBounds j true).getD i false) (k:=k) (j:=j + 1) (m:=ops.size) (by omega) (fun i h5 h6 h7 hw=>by
      rw [hset,if_neg (by omega)] at h7
      refine late i (by omega) h6 h7 ?_
      simp only [fM,Bool.or_eq_true]
      exact .inr (meets_iff.2 ⟨k,hk,hw⟩))
     rw [e1]
     simp only [part,hset,if_true,qg,hrec,hx,Option.getD_some]
    ·have hn:=j7 hk
     rw [hrec] at hn
     rw [hn,Option.getD_none]
     exact jJ fun i hi hw=>by rw [hset,if_neg (fun e : i = j=>hk (e ▸ hw))]
  have hcase:=hst σ hread a w G (wpAny E.P .any ops Q fuel (listed.setIfInBounds j true)) Q hs next
  unfold wpOp
  rw [ho]
  simp only
  split
  ·rename_i hw;rw [if_pos hw] at hcase;exact .inl hcase
  ·rename_i hw;rw [if_neg hw] at hcase;exact hcase
theorem vV {σ : bv} {a : Act} {w : World} {G : Gh} (h : Sim E σ a w G) : Sim E σ a { w with drawn:=w.drawn + 1 } G :=
 ⟨h.defers,h.tsize,h.slots,⟨h.st.agree,h.st.box,h.st.real,h.st.inj,h.st.gl⟩,⟨h.fr.os,h.fr.tape,h.fr.output,h.fr.size,h.fr.block⟩,h.step,h.zp⟩
theorem vM (tk : FuncId→Bool) {Q : Exit→bv→Prop} {σ : bv} {id : Nat} {l : List Oper} (hm : E.P.follows .mixedOrders = true)
  (h : ∀ K : bv→List Rec→Prop,(∀ σ' recs,j2 l recs = true→Q .normal σ'→K σ' recs)→fj E.P E.N tk l.toArray l σ [] K) : aw E (.region id l.toArray true) Q σ:=fun a w G hs=>by
 obtain ⟨recs,σ',h1,h2,h3,h4⟩:=lv (E:=E) (K:=fun σ' recs=>j2 l recs = true∧Q .normal σ') trivial (h _ fun σ' recs h1 h2=>⟨h1,h2⟩)
 simp only [List.nil_append] at h1
 refine wp_region_any hm (uk (F:=be σ) (by simpa using h2) (by simpa using h1.1) (fun i h5 h6=>by simpa using h3 i (by simpa using h5) h6) (fun σ'' a' w' G' h5 h6=>⟨σ',G',h1.2,h6.ext fun k=>?ext⟩) _ _ σ a _ G (by simp) ?cnt (fun j o e hj=>?cls) (fun k=>?prt) (vV hs))
 case ext=>rw [h4 k,h5 k]
 case cnt=>exact Nat.le_trans (List.length_filter_le _ _) (by simp)
 case cls =>
  exfalso
  rw [Array.getD_eq_getD_getElem?,Array.getElem?_replicate] at hj
  split at hj <;> simp at hj
 case prt =>
  have : ∀ m,part (be σ) recs (fun i=>(Array.replicate l.toArray.size false).getD i false) m = be σ:=fun m=>by
   induction m with
   | zero=>rfl
   | succ m ih =>
    simp only [part]
    rw [if_neg,ih]
    rw [Array.getD_eq_getD_getElem?,Array.getElem?_replicate]
    split <;> simp
  rw [this]
end order
end
def cy (b : Nat) : Nat→AV→Bool
 | 0,_=>true
 | _ + 1,.sl _ _ (.tok b')=>b' == b
 | _ + 1,.loc b' _=>b' == b
 | _ + 1,.arr b' _ _ _=>b' == b
 | _ + 1,.mp b'=>b' == b
 | n + 1,.agg cs=>cs.any (cy b n)
 | n + 1,.tup cs=>cs.any (cy b n)
 | n + 1,.ifc _ x=>cy b n x
 | n + 1,.fn _ p q=>p.any (cy b n) || q.any (cy b n)
 | n + 1,.bc cs _=>cs.any (cy b n)
 | n + 1,.br cs _ _ _=>cs.any (cy b n)
 | _ + 1,.ow b' _ _ _=>b' == b
 | _ + 1,.lo b' _ _=>b' == b
 | n + 1,.fo rows=>rows.any fun | .br cs _ _ _=>cs.any (cy b n) | _=>false
 | _ + 1,.sl _ _ .none=>false
 | _ + 1,.sl _ _ .full=>false
 | _ + 1,.c _=>false
 | _ + 1,.u=>false
 | _ + 1,.rf _ _=>false
 | _ + 1,.bt _ _=>false
def j0 (b : Nat) : bv→Bool
 | []=>false
 | (k,v) :: r=>(k != b && cy b 5 v) || j0 b r
def mrm (b : Nat) : bv→bv
 | []=>[]
 | (k,v) :: r=>if k = b then mrm b r else (k,v) :: mrm b r
theorem mO (b k : Nat) : ∀ σ : bv,be (mrm b σ) k = if k = b then .u else be σ k
 | []=>by simp [mrm,be]
 | (i,v) :: r=>by
  have ih:=mO b k r
  unfold mrm
  by_cases e : i = b
  ·rw [if_pos e,ih]
   by_cases e2 : k = b
   ·rw [if_pos e2,if_pos e2]
   ·rw [if_neg e2,if_neg e2];simp only [be];rw [if_neg (fun h : i = k=>e2 (h ▸ e))]
  ·rw [if_neg e]
   simp only [be]
   by_cases e2 : i = k
   ·rw [if_pos e2,if_pos e2,if_neg (fun h=>e (e2.trans h))]
   ·rw [if_neg e2,ih,if_neg e2]
theorem gy {b : Nat} : ∀ {σ : bv},j0 b σ = false→∀ k,k ≠ b→cy b 5 (be σ k) = false
 | [],_,k,_=>rfl
 | (i,v) :: r,h,k,hk=>by
  simp only [j0,Bool.or_eq_false_iff,Bool.and_eq_false_iff] at h
  simp only [be]
  split
  ·rename_i e;subst e
   rcases h.1 with h1 | h1
   ·simp at h1;exact absurd h1 hk
   ·exact h1
  ·exact gy h.2 k hk
section gc
variable {E : Env}
theorem ir {G : Gh} {B B' : Nat→AV} {b : Nat} (hB : ∀ k,10000≤k→k ≠ b→B' k = B k) : ∀ (n : Nat) {x : AV} {v : Value},cy b n x = false→VRel G B v x→VRel ⟨G.Z,fun k=>if k = b then none else G.γ k,G.κ,G.β⟩ B' v x
 | 0,x,v,h,_=>by simp [cy] at h
 | n + 1,x,v,h,hv=>by
  have lst : ∀ {cs : List AV} {vs : Array Value},cs.any (cy b n) = false→(∀ j (hj : j < cs.length),VRel G B (vs.getD j undef) cs[j])→∀ j (hj : j < cs.length),VRel ⟨G.Z,fun k=>if k = b then none else G.γ k,G.κ,G.β⟩ B' (vs.getD j undef) cs[j]:=fun {cs vs} hc hp j hj =>
   ir hB n (by rw [List.any_eq_false] at hc;simpa using hc cs[j] (List.getElem_mem hj)) (hp j hj)
  cases x with
  | c x=>rw [cI hv];exact .p (.c x)
  | u=>exact .p (.u v)
  | sl cs m o =>
   obtain ⟨ad,cap,b',off,f,rfl,hs,hf,ht⟩:=dR hv
   cases o with
   | none=>exact .p (.sl ad b' off m cap .none cs f (.inl rfl) hs.1 hs.2.1 hs.2.2.1 hs.2.2.2.1 hs.2.2.2.2)
   | full=>exact .p (.sl ad b' off m cap .full cs f (.inr ⟨rfl,hf rfl⟩) hs.1 hs.2.1 hs.2.2.1 hs.2.2.2.1 hs.2.2.2.2)
   | tok t =>
    have hne : t ≠ b:=by simpa [cy] using h
    obtain ⟨h1,tip,e,h2,h3,h4⟩:=ht t rfl
    refine .tok ad m cap cs t tip e (.sl ad b' off m cap .none cs f (.inl rfl) hs.1 hs.2.1 hs.2.2.1 hs.2.2.2.1 hs.2.2.2.2) h1 ((hB t h1 hne).trans h2) h3 fun e'=>?_
    have:=h4 e'
    unfold lu at *
    simp only [if_neg hne];exact this
  | rf cs o =>
   obtain ⟨b',off,f,rfl,hz,hp⟩:=gk hv
   exact .p (.rf b' off o cs f hz hp)
  | agg cs =>
   obtain ⟨vs,rfl,hs,h1,hp⟩:=fe hv
   exact .agg vs cs hs h1 (lst (by simpa [cy] using h) hp)
  | tup cs =>
   obtain ⟨vs,rfl,hs,hp⟩:=gt hv
   exact .tup vs cs hs (lst (by simpa [cy] using h) hp)
  | ifc t x =>
   obtain ⟨v',rfl,hx⟩:=dk hv
   exact .ifc t v' x (ir hB n (by simpa [cy] using h) hx)
  | fn f p q =>
   obtain ⟨va,vb,rfl,ha,hb,pa,pb⟩:=g6 hv
   simp only [cy,Bool.or_eq_false_iff] at h
   exact .fn f va vb p q ha hb (lst h.1 pa) (lst h.2 pb)
  | loc b' off =>
   have hne : b' ≠ b:=by simpa [cy] using h
   obtain ⟨g,cs,ty,rfl,hb',hB',hg,hm⟩:=ff hv
   exact .loc b' off g cs ty hb' ((hB b' hb' hne).trans hB') ((if_neg hne).trans hg) hm
  | arr b' off m e =>
   have hne : b' ≠ b:=by simpa [cy] using h
   obtain ⟨g,cap,cs,ty,rfl,hn,hb',hB',hg,hm⟩:=gr hv
   exact .arr b' off m e cap g cs ty hb' ((hB b' hb' hne).trans hB') ((if_neg hne).trans hg) hn hm
  | mp b' =>
   have hne : b' ≠ b:=by simpa [cy] using h
   obtain ⟨g,cs,ty,rfl,hb',hB',hg,hm⟩:=jm hv
   exact .mp b' g cs ty hb' ((hB b' hb' hne).trans hB') ((if_neg hne).trans hg) hm
  | bc cs ty=>exact (sh hv).elim
  | bt m e=>exact (sj hv).elim
  | br cs v e sz=>exact (si hv).elim
  | fo rows=>exact (sk hv).elim
  | ow b' off m ver =>
   have hne : b' ≠ b:=by simpa [cy] using h
   obtain ⟨ad,cap,cs,v',e,sz,rfl,hn,had,hb',hB',hvv,how⟩:=gj hv
   refine .ow ad m cap b' off ver cs v' e sz hb' ((hB b' hb' hne).trans hB') hn had hvv fun hv=>?_
   have:=how hv
   unfold nr at *
   simp only [if_neg hne];exact this
  | lo b' off ver =>
   have hne : b' ≠ b:=by simpa [cy] using h
   obtain ⟨g,o,cs,v',e,sz,rfl,hb',hB',hvv,hk⟩:=iJ hv
   exact .lo g o b' off ver cs v' e sz hb' ((hB b' hb' hne).trans hB') hvv fun hv=>⟨(if_neg hne).trans (hk hv).1,(hk hv).2⟩
theorem nH {b : Nat} {σ : bv} (h : j0 b σ = false) (hb : i7 (be σ b) = false) {k : Nat} (hne : k ≠ b) {cs : List AV} : (∀ {ty},lm σ k = .bc cs ty→cs.any (cy b 4) = false)∧∀ {v e sz},lm σ k = .br cs v e sz→cs.any (cy b 4) = false:=by
 refine ⟨fun {ty} hc=>?_,fun {v e sz} hc=>?_⟩
 ·have h5:=gy h k hne
  rw [(fI hc).2] at h5
  simpa only [cy] using h5
 ·by_cases hk : k < 1000000
  ·have h5:=gy h k hne
   have e1 : lm σ k = be σ k:=ca hk
   rw [e1] at hc
   rw [hc] at h5
   simpa only [cy] using h5
  ·rcases sy (B:=be σ) hk with e1 | ⟨rows,cs',v',e',sz',h10,e1,e2,e3⟩
   ·have hc' : lk (be σ) k = .br cs v e sz:=hc
    rw [e1] at hc';cases hc'
   ·have hc' : lk (be σ) k = .br cs v e sz:=hc
    rw [e2] at hc';cases hc'
    have hne2 : df k ≠ b:=fun e4=>by rw [← e4,e1] at hb;cases hb
    have h5:=gy h (df k) hne2
    rw [e1] at h5
    simp only [cy] at h5
    rw [List.any_eq_false] at h5
    have:=h5 _ (List.mem_of_getElem? e3)
    simpa using this
theorem Ai {b : Nat} {σ : bv} (hb : 10000≤b∧b < 20000) (hfo : i7 (be σ b) = false) (h : j0 b σ = false) : ALe E σ (mrm b σ):=fun a w G hs=>by
 have hlm : ∀ k,10000≤k→lm (mrm b σ) k = if b = k then .u else lm σ k:=fA (fun k _ _=>by
  rw [mO]
  by_cases e : k = b
  ·rw [if_pos e,if_pos e.symm]
  ·rw [if_neg e,if_neg (fun h=>e h.symm)]) (by omega) hfo rfl
 have hB : ∀ k,10000≤k→k ≠ b→lm (mrm b σ) k = lm σ k:=fun k hk hne=>by rw [hlm k hk,if_neg (fun h=>hne h.symm)]
 have hr:=fun k (hk : k ≠ b) {v} (hv : VRel G (lm σ) v (be σ k))=>ir (B':=lm (mrm b σ)) hB 5 (gy h k hk) hv
 refine ⟨⟨G.Z,fun k=>if k = b then none else G.γ k,G.κ,G.β⟩,hs.defers,hs.tsize,fun t ht=>?_,⟨hs.st.agree,fun k g hk=>?_,fun k cs ty hk hc=>?_,fun k k' g h1 h2=>?_,hs.st.gl⟩,hs.fr,⟨hs.step.1,fun k hk=>?_⟩,hs.zp⟩
 ·rw [mO,if_neg (by omega)];exact hr t (by omega) (hs.slots t ht)
 ·have hk' : (if k = b then none else G.γ k) = some g:=hk
  split at hk'
  ·cases hk'
  ·rename_i hne
   obtain ⟨h1,h2,h3⟩:=hs.st.box k g hk'
   refine ⟨h1,h2,?_⟩
   rcases h3 with ⟨cs,ty,r1,⟨rm,c,r2,r3,r4,r5⟩ | rm⟩ | ⟨n,e,r1,c,r2,r3,r4,r5,r6⟩ | ⟨cs,v,e,sz,r1,c,r2,r3,r4,r5,r6,r7⟩
   ·refine .inl ⟨cs,ty,(hB k h1 hne).trans r1,.inl ⟨rm,c,r2,r3,r4,fun j hj=>⟨?_,(r5 j hj).2⟩⟩⟩
    have h5:=(nH h hfo hne).1 r1
    rw [List.any_eq_false] at h5
    exact ir hB 4 (by simpa using h5 cs[j] (List.getElem_mem hj)) (r5 j hj).1
   ·exact .inl ⟨cs,ty,(hB k h1 hne).trans r1,.inr rm⟩
   ·exact .inr (.inl ⟨n,e,(hB k h1 hne).trans r1,c,r2,r3,r4,r5,r6⟩)
   ·refine .inr (.inr ⟨cs,v,e,sz,(hB k h1 hne).trans r1,c,r2,r3,r4,r5,r6,fun j hj=>⟨?_,(r7 j hj).2⟩⟩)
    have h5:=(nH h hfo hne).2 r1
    rw [List.any_eq_false] at h5
    exact ir hB 4 (by simpa using h5 cs[j] (List.getElem_mem hj)) (r7 j hj).1
 ·have hne : k ≠ b:=fun e=>by rw [hlm k hk,if_pos e.symm] at hc;cases hc
  rw [hB k hk hne] at hc
  obtain ⟨g,hg⟩:=hs.st.real k cs ty hk hc
  exact ⟨g,(if_neg hne).trans hg⟩
 ·have e1 : (if k = b then none else G.γ k) = some g:=h1
  have e2 : (if k' = b then none else G.γ k') = some g:=h2
  split at e1
  ·cases e1
  ·split at e2
   ·cases e2
   ·exact hs.st.inj k k' g e1 e2
 ·by_cases hne : k = b
  ·subst hne
   exact .u (E.hB0.1 k hb.2)
  ·rw [hB k hk hne]
   have:=hs.step.2 k hk
   unfold KStep at *
   simpa only [if_neg hne] using this
def mgc : List Nat→bv→bv
 | [],σ=>σ
 | b :: r,σ=>if 10000≤b∧b < 20000∧i7 (be σ b) = false∧j0 b σ = false then mgc r (mrm b σ) else mgc r σ
theorem rN : ∀ (bs : List Nat) (σ : bv),ALe E σ (mgc bs σ)
 | [],σ=>fun a w G hs=>⟨G,hs⟩
 | b :: r,σ=>by
  unfold mgc
  split
  ·rename_i h
   intro a w G hs
   obtain ⟨G',hs'⟩:=Ai ⟨h.1,h.2.1⟩ h.2.2.1 h.2.2.2 a w G hs
   exact rN r _ a w G' hs'
  ·exact rN r σ
def tv : bv→List Nat
 | []=>[]
 | (k,_) :: r=>if 10000≤k∧k < 20000 then k :: tv r else tv r
def gD (L : List Nat) (σ : bv) : bv:=mgc (tv (gF L σ)) (gF L σ)
theorem hU (L : List Nat) (σ : bv) : ALe E σ (gD L σ):=fun a w G hs=>by
 obtain ⟨G',hs'⟩:=vD L σ a w G hs
 exact rN _ _ a w G' hs'
end gc
theorem gp {E : Env} {σ : bv} {b t n : Nat} {cs : List AV} (e : TypeId) (hb : 10000≤b∧b < 20000) (ht : t < 10000) (hu : be σ b = .u) (hv : be σ t = .sl cs n .full) : ALe E σ (cC (cC σ b (.bt n e)) t (.sl cs n (.tok b))):=fun a w G hs=>by
 have hm : ∀ k,be (cC (cC σ b (.bt n e)) t (.sl cs n (.tok b))) k = if t = k then .sl cs n (.tok b) else if b = k then .bt n e else be σ k:=fun k=>by rw [bO,bO]
 have hub : lm σ b = .u:=(ca (by omega)).trans hu
 have hγ : G.γ b = none:=by
  cases hg : G.γ b with
  | none=>rfl
  | some g =>
   exact ((hs.st.box b g hg).2.2.not_u hub).elim
 have hlm : ∀ k,10000≤k→lm (cC (cC σ b (.bt n e)) t (.sl cs n (.tok b))) k = if b = k then .bt n e else lm σ k:=fA (fun k hk _=>by rw [hm,if_neg (by omega)]) (by omega) (by rw [hu];rfl) rfl
 have hst : BStep G (lm σ) G (lm (cC (cC σ b (.bt n e)) t (.sl cs n (.tok b)))):=⟨.refl _,fun k hk=>by
  rw [hlm k hk]
  by_cases h1 : b = k
  ·subst h1;exact .u hub
  ·rw [if_neg h1];exact .same rfl rfl rfl rfl⟩
 refine ⟨G,hs.defers,hs.tsize,fun k hk=>?_,⟨hs.st.agree,fun k g hk=>?_,fun k cs' ty hk hc=>?_,hs.st.inj,hs.st.gl⟩,hs.fr,hs.step.trans hst,hs.zp⟩
 ·rw [hm]
  by_cases h1 : t = k
  ·subst h1
   rw [if_pos rfl]
   have h2:=hs.slots t ht
   rw [hv] at h2
   obtain ⟨ad,cap,b',off,f,ev,⟨q1,q2,q3,q4,q5⟩,hf,_⟩:=dR h2
   rw [ev]
   refine .tok ad n cap cs b n e (.sl ad b' off n cap .none cs f (.inl rfl) q1 q2 q3 q4 q5) hb.1 ((hlm b hb.1).trans (if_pos rfl)) (Nat.le_refl _) fun _=>⟨fun _=>hf rfl,fun g hg=>by rw [hγ] at hg;cases hg⟩
  ·rw [if_neg h1,if_neg (by omega)];exact (hs.slots k hk).step hst
 ·obtain ⟨h1,h2,h3⟩:=hs.st.box k g hk
  refine ⟨h1,h2,h3.step hst ?_ rfl rfl rfl fun _=>rfl⟩
  rw [hlm k h1,if_neg (fun h4=>by rw [← h4,hγ] at hk;cases hk)]
 ·rw [hlm k hk] at hc
  by_cases h1 : b = k
  ·rw [if_pos h1] at hc;cases hc
  ·rw [if_neg h1] at hc;exact hs.st.real k cs' ty hk hc
theorem Ah {E : Env} {σ : bv} {b : Nat} (hb : 10000≤b∧b < 20000) (hu : be σ b = .u) : ALe E σ (cC σ b (.fo [])):=fun a w G hs=>by
 have hm : ∀ k,be (cC σ b (.fo [])) k = if b = k then .fo [] else be σ k:=fun k=>bO ..
 have hl : ∀ k,10000≤k→lm (cC σ b (.fo [])) k = if b = k then .fo [] else lm σ k:=fun k hk=>by
  by_cases hk1 : k < 1000000
  ·show lk _ k = if b = k then .fo [] else lk _ k
   rw [ca hk1,ca hk1,hm]
  ·rw [if_neg (by omega)]
   show lk _ k = lk _ k
   unfold lk
   rw [if_neg hk1,if_neg hk1,hm]
   by_cases e : b = df k
   ·rw [if_pos e,← e,hu];rfl
   ·rw [if_neg e]
 have hub : lm σ b = .u:=(ca (by omega)).trans hu
 have hγ : G.γ b = none:=by
  cases hg : G.γ b with
  | none=>rfl
  | some g=>exact ((hs.st.box b g hg).2.2.not_u hub).elim
 have hst : BStep G (lm σ) G (lm (cC σ b (.fo []))):=⟨.refl _,fun k hk=>by
  rw [hl k hk]
  by_cases h1 : b = k
  ·subst h1;exact .u hub
  ·rw [if_neg h1];exact .same rfl rfl rfl rfl⟩
 refine ⟨G,hs.defers,hs.tsize,fun k hk=>?_,⟨hs.st.agree,fun k g hk=>?_,fun k cs' ty hk hc=>?_,hs.st.inj,hs.st.gl⟩,hs.fr,hs.step.trans hst,hs.zp⟩
 ·rw [hm,if_neg (by omega)];exact (hs.slots k hk).step hst
 ·obtain ⟨h1,h2,h3⟩:=hs.st.box k g hk
  refine ⟨h1,h2,h3.step hst ?_ rfl rfl rfl fun _=>rfl⟩
  rw [hl k h1,if_neg (fun h4=>by rw [← h4,hγ] at hk;cases hk)]
 ·rw [hl k hk] at hc
  by_cases h1 : b = k
  ·rw [if_pos h1] at hc;cases hc
  ·rw [if_neg h1] at hc;exact hs.st.real k cs' ty hk hc
end Go.Proofs.YtmpdocplcgbpkaaGreatDoor

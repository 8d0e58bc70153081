/- K: calls, sound; and all operations together. No program is in sight. K: regions in the order of the text; code. No program is in sight. K: regions that draw their order. One run in the order of the text serves every order, if what conflicts is ordered. No program is in sight. -/
import Derived.Test.YtmpdocplcgbpkaaGreatDoorZ2
import Derived.Orders
namespace Go.Proofs.YtmpdocplcgbpkaaGreatDoor
set_option linter.unusedSimpArgs false
set_option linter.unusedVariables false
open Go.RowKit
theorem hU : ∀ {l m : List Nat},m.Nodup → (oO m l).Nodup
 | [],m,h => h
 | x :: r,m,h => by
  unfold oO
  split
  ·exact hU h
  ·rename_i hx
   refine hU (List.nodup_append.2 ⟨h,by simp,fun a ha b hb => ?_⟩)
   simp at hb
   subst hb
   intro e;subst e
   exact hx (by simpa using ha)
section
variable {P : Program} {σ : bT} {Goal : List (Nat × AV) → Prop}
theorem Snd.rdBoxes : ∀ {ns : List Nat} {f : List AV → TR},((∀ b ∈ ns,10000 ≤ b ∧ b < 1000000) → Snd P σ (f (ns.map (bP σ))) Goal) → Snd P σ (rdBoxes ns f) Goal
 | [],f,h => h (fun b hb => by simp at hb)
 | b :: r,f,h => .need fun hb => .rd (Snd.rdBoxes (ns := r) fun hr => h fun x hx => by
   rcases List.mem_cons.1 hx with rfl | hx
   ·exact hb
   ·exact hr x hx)
theorem Snd.gather {tk : Bool} : ∀ {k : Nat} {ns : List Nat} {f : List Nat → List AV → TR},ns.Nodup → (∀ ns' : List Nat,ns'.Nodup → (∀ b ∈ ns',10000 ≤ b ∧ b < 1000000) → Snd P σ (f ns' (ns'.map (bP σ))) Goal) → Snd P σ (gather tk k ns f) Goal
 | 0,_,_,_,_ => .fail
 | k + 1,ns,f,hn,h => by
  refine .rdBoxes fun hb => ?_
  split
  ·exact h ns hn hb
  ·exact Snd.gather (hU hn) h
end
theorem fA : ∀ {ns : List Nat} {i b b' : Nat},eq (cb i ns) b = some b' → ∃ j,j < ns.length ∧ b' = 20000 + i + j ∧ ns[j]? = some b
 | [],i,b,b',h => by simp [cb,eq] at h
 | x :: r,i,b,b',h => by
  simp only [cb,eq] at h
  split at h
  ·rename_i e;cases h;subst e;exact ⟨0,by simp,by omega,by simp⟩
  ·obtain ⟨j,h1,h2,h3⟩ := fA h
   exact ⟨j + 1,by simpa using h1,by omega,by simpa using h3⟩
theorem jK : ∀ {ns : List Nat} {i b b' : Nat},eq (dV (cb i ns)) b = some b' → ∃ j,j < ns.length ∧ b = 20000 + i + j ∧ ns[j]? = some b'
 | [],i,b,b',h => by simp [cb,dV,eq] at h
 | x :: r,i,b,b',h => by
  simp only [cb,dV,List.map_cons,eq] at h
  split at h
  ·rename_i e;cases h;exact ⟨0,by simp,by omega,by simp⟩
  ·obtain ⟨j,h1,h2,h3⟩ := jK (ns := r) (i := i + 1) h
   exact ⟨j + 1,by simpa using h1,by omega,by simpa using h3⟩
theorem jp {G G' : Gh} {B B' : Nat → AV} {g : List (Nat × Nat)} (hZ : G'.Z = G.Z)
  (hreal : ∀ k,(∃ cs ty,B k = .bc cs ty) ∨ (∃ n e,B k = .bt n e) → k < 1000000)
  (hg : ∀ b b',fP g b = some b' → 10000 ≤ b' ∧ (∀ cs ty,B b = .bc cs ty → ∃ cs',B' b' = .bc cs' ty) ∧ (∀ n e,B b = .bt n e → B' b' = .bt n e) ∧ G'.γ b' = G.γ b ∧ G'.κ b' = G.κ b ∧ G'.β b' = G.β b ∧ (∀ cs v e sz,B b = .br cs v e sz → ∃ cs',B' b' = .br cs' v e sz)) :
  ∀ (k : Nat) {x : AV} {v : Value},VRel G B v x → VRel G' B' v (ren g k x)
 | 0,x,v,_ => .p (.u v)
 | k + 1,x,v,h => by
  have lst : ∀ {cs : List AV} {vs : Array Value},(∀ j (hj : j < cs.length),VRel G B (vs.getD j undef) cs[j]) → ∀ j (hj : j < (cs.map (ren g k)).length),VRel G' B' (vs.getD j undef) (cs.map (ren g k))[j] := fun {cs vs} hp j hj => by
   rw [List.getElem_map]
   exact jp hZ hreal hg k (hp j (by simpa using hj))
  cases x with
  | c x => rw [c5 h];exact .p (.c x)
  | u => exact .p (.u v)
  | sl cs n o =>
   obtain ⟨ad,cap,b,off,f,rfl,⟨h1,h2,h3,h4,h5⟩,hf,ht⟩ := d7 h
   cases o with
   | none => exact .p (.sl ad b off n cap .none cs f (.inl rfl) h1 h2 h3 (by rw [hZ];exact h4) (by rw [hZ];exact h5))
   | full => exact .p (.sl ad b off n cap .full cs f (.inr ⟨rfl,hf rfl⟩) h1 h2 h3 (by rw [hZ];exact h4) (by rw [hZ];exact h5))
   | tok t =>
    have hp : PRel G'.Z (.slice ad n cap) (.sl cs n .none) := .sl ad b off n cap .none cs f (.inl rfl) h1 h2 h3 (by rw [hZ];exact h4) (by rw [hZ];exact h5)
    obtain ⟨h6,tip,e,hB,hn,hk⟩ := ht t rfl
    simp only [ren]
    split
    ·rename_i b' hb'
     obtain ⟨q1,_,q3,q4,q5,_⟩ := hg t b' ((if_pos (hreal t (.inr ⟨_,_,hB⟩))).trans hb')
     refine .tok ad n cap cs b' tip e hp q1 (q3 tip e hB) hn fun e' => ?_
     have := hk e'
     unfold kR at *
     rw [q4,q5];exact this
    ·exact .p hp
  | rf cs o =>
   obtain ⟨b,off,f,rfl,hz,hp⟩ := fW h
   exact .p (.rf b off o cs f (by rw [hZ];exact hz) (by rw [hZ];exact hp))
  | agg cs =>
   obtain ⟨vs,rfl,hs,h1,hp⟩ := eV h
   exact .agg vs _ (by simpa using hs) (fun j hj => h1 j (by simpa using hj)) (lst hp)
  | tup cs =>
   obtain ⟨vs,rfl,hs,hp⟩ := ge h
   exact .tup vs _ (by simpa using hs) (lst hp)
  | ifc t x =>
   obtain ⟨v',rfl,hv⟩ := dw h
   exact .ifc t v' _ (jp hZ hreal hg k hv)
  | fn f p q =>
   obtain ⟨va,vb,rfl,ha,hb,pa,pb⟩ := gH h
   exact .fn f va vb _ _ (by simpa using ha) (by simpa using hb) (lst pa) (lst pb)
  | loc b off =>
   obtain ⟨g',cs,ty,rfl,hb,hB,hγ,hm⟩ := eW h
   simp only [ren]
   split
   ·rename_i b' hb'
    obtain ⟨q1,q2,_,q4,_⟩ := hg b b' ((if_pos (hreal b (.inl ⟨_,_,hB⟩))).trans hb')
    obtain ⟨cs',q2⟩ := q2 cs ty hB
    exact .loc b' off g' cs' ty q1 q2 (q4.trans hγ) hm
   ·exact .p (.u _)
  | arr b off n e =>
   obtain ⟨g',cap,cs,ty,rfl,hn,hb,hB,hγ,hm⟩ := gd h
   simp only [ren]
   split
   ·rename_i b' hb'
    obtain ⟨q1,q2,_,q4,_⟩ := hg b b' ((if_pos (hreal b (.inl ⟨_,_,hB⟩))).trans hb')
    obtain ⟨cs',q2⟩ := q2 cs ty hB
    exact .arr b' off n e cap g' cs' ty q1 q2 (q4.trans hγ) hn hm
   ·exact .p (.u _)
  | mp b =>
   obtain ⟨g',cs,ty,rfl,hb,hB,hγ,hm⟩ := iZ h
   simp only [ren]
   split
   ·rename_i b' hb'
    obtain ⟨q1,q2,_,q4,_⟩ := hg b b' ((if_pos (hreal b (.inl ⟨_,_,hB⟩))).trans hb')
    obtain ⟨cs',q2⟩ := q2 cs ty hB
    exact .mp b' g' cs' ty q1 q2 (q4.trans hγ) hm
   ·exact .p (.u _)
  | ow b off n ver =>
   obtain ⟨ad,cap,cs,v',e,sz,rfl,hn,had,hb,hB,hvv,how⟩ := fV h
   simp only [ren]
   split
   ·rename_i b' hb'
    obtain ⟨q1,_,_,q4,q5,q6,q7⟩ := hg b b' hb'
    obtain ⟨cs',q7⟩ := q7 cs v' e sz hB
    refine .ow ad n cap b' off ver cs' v' e sz q1 q7 hn had hvv fun hv => ?_
    have := how hv
    unfold mA at *
    rw [q4,q5,q6];exact this
   ·exact .p (.u _)
  | lo b off ver =>
   obtain ⟨g',o,cs,v',e,sz,rfl,hb,hB,hvv,hk⟩ := ip h
   simp only [ren]
   split
   ·rename_i b' hb'
    obtain ⟨q1,_,_,q4,q5,q6,q7⟩ := hg b b' hb'
    obtain ⟨cs',q7⟩ := q7 cs v' e sz hB
    refine .lo g' o b' off ver cs' v' e sz q1 q7 hvv fun hv => ?_
    rw [q4,q6];exact hk hv
   ·exact .p (.u _)
  | bc cs ty => exact (qF h).elim
  | bt n e => exact (qH h).elim
  | br cs v e sz => exact (qG h).elim
  | fo rows => exact (qI h).elim
theorem sf {G G' : Gh} {B B' : Nat → AV} {g : List (Nat × Nat)} (hZ : G'.Z = G.Z)
  (hreal : ∀ k,(∃ cs ty,B k = .bc cs ty) ∨ (∃ n e,B k = .bt n e) → k < 1000000)
  (hg : ∀ b b',fP g b = some b' → 10000 ≤ b' ∧ (∀ cs ty,B b = .bc cs ty → ∃ cs',B' b' = .bc cs' ty) ∧ (∀ n e,B b = .bt n e → B' b' = .bt n e) ∧ G'.γ b' = G.γ b ∧ G'.κ b' = G.κ b ∧ G'.β b' = G.β b ∧ (∀ cs v e sz,B b = .br cs v e sz → ∃ cs',B' b' = .br cs' v e sz))
  {P : Program} {w : World} {k k' g' : Nat} (h : BoxAt P G B w k g') (hB : B' k' = dC g (B k)) (hκ : G'.κ k' = G.κ k) (hβ : G'.β k' = G.β k) : BoxAt P G' B' w k' g' := by
 rcases h with ⟨cs,ty,e,h2⟩ | ⟨n,e,h1,c,h2,h3,h4,h5,h6⟩ | ⟨cs,v,e,sz,h1,h2⟩
 ·rw [e] at hB
  exact .inl ⟨_,ty,hB,h2.to (ren g 4) (fun _ => rfl) (fun _ _ h => jp hZ hreal hg 4 h) rfl fun o ho => by rw [hZ];exact ho⟩
 ·rw [h1] at hB
  rw [← hκ] at h3 h4 h5
  exact .inr (.inl ⟨n,e,hB,c,h2,h3,h4,h5,by rw [hZ];exact h6⟩)
 ·rw [h1] at hB
  exact .inr (.inr ⟨_,v,e,sz,hB,h2.to (ren g 4) (fun _ _ h => jp hZ hreal hg 4 h) rfl hκ hβ fun o ho => by rw [hZ];exact ho⟩)
theorem nn (g : List (Nat × Nat)) (x : AV) (i : Nat) : dK (dC g x) i = dC g (dK x i) := by
 cases x with
 | fo rows =>
  simp only [dC,dK,gA,List.getD_eq_getElem?_getD,List.getElem?_map]
  cases h : rows[i]? with
  | none => rfl
  | some y => cases y <;> rfl
 | _ => rfl
theorem kf {B : Nat → AV} : ∀ k,(∃ cs ty,lk B k = .bc cs ty) ∨ (∃ n e,lk B k = .bt n e) → k < 1000000 := fun k h => by
 rcases h with ⟨_,_,h⟩ | ⟨_,_,h⟩
 ·exact (fv h).1
 ·exact (uG h).1
theorem mQ {g : List (Nat × Nat)} : ∀ {ns : List Nat} {bs : List AV} {σ : bT},bs.length = ns.length → ns.Nodup → (∀ (j : Nat) (b : Nat) (x : AV),ns[j]? = some b → bs[j]? = some x → bP (cL σ (gj g ns bs)) b = dC g x) ∧ ∀ k,k ∉ ns → bP (cL σ (gj g ns bs)) k = bP σ k
 | [],[],σ,_,_ => ⟨fun j b x h => by simp at h,fun k _ => rfl⟩
 | n :: ns,x :: bs,σ,hl,hn => by
  obtain ⟨h1,h2⟩ := List.nodup_cons.1 hn
  obtain ⟨h3,h4⟩ := mQ (g := g) (ns := ns) (bs := bs) (σ := cX σ n (dC g x)) (by simpa using hl) h2
  refine ⟨fun j b y hb hy => ?_,fun k hk => ?_⟩
  ·cases j with
   | zero =>
    simp at hb hy
    subst hb;subst hy
    show bP (cL (cX σ n (dC g x)) (gj g ns bs)) n = _
    rw [h4 n h1,cj,if_pos rfl]
   | succ j => exact h3 j b y (by simpa using hb) (by simpa using hy)
  ·show bP (cL (cX σ n (dC g x)) (gj g ns bs)) k = _
   rw [h4 k (fun h => hk (by simp [h])),cj,if_neg (fun e => hk (by simp [e]))]
theorem k8 (σ : bT) : ∀ (a b : List (Nat × AV)),cL σ (a ++ b) = cL (cL σ a) b
 | [],b => rfl
 | (k,v) :: a,b => k8 (cX σ k v) a b
theorem jf {bs : List AV} {j : Nat} {x : AV} (h : bs[j]? = some x) : dp bs (20000 + j) = x := by
 unfold dp
 rw [if_pos (by omega),Nat.add_sub_cancel_left,List.getD_eq_getElem?_getD,h];rfl
structure NB (ns : List Nat) : Prop where
 nd : ns.Nodup
 bd : ∀ b ∈ ns,10000 ≤ b ∧ b < 1000000
 len : ns.length ≤ 1001
def trC (ns : List Nat) (k : Nat) : Option Nat := if k < 1000000 then (if 20000 ≤ k then ns[k - 20000]? else none) else if 20000 ≤ dq k then (ns[dq k - 20000]?).map fun b => enc b (ec k) else none
def trB (ns : List Nat) (k : Nat) : Option Nat := if k < 1000000 then (if k ∈ ns then some (20000 + ns.idxOf k) else none) else if dq k ∈ ns then some (enc (20000 + ns.idxOf (dq k)) (ec k)) else none
theorem uo {ns : List Nat} (hn : ns.Nodup) {j b : Nat} (h : ns[j]? = some b) : ns.idxOf b = j := by
 obtain ⟨h1,h2⟩ := List.getElem?_eq_some_iff.1 h
 subst h2
 exact hn.idxOf_getElem j h1
theorem tQ {ns : List Nat} {b : Nat} (h : b ∈ ns) : ns[ns.idxOf b]? = some b := by
 have h1 := List.idxOf_lt_length_of_mem h
 rw [List.getElem?_eq_getElem h1];simp
theorem gg {ns : List Nat} {k b : Nat} (h : trC ns k = some b) : (k < 1000000 ∧ ∃ j,k = 20000 + j ∧ ns[j]? = some b) ∨ (¬ k < 1000000 ∧ ∃ j b0,dq k = 20000 + j ∧ ns[j]? = some b0 ∧ b = enc b0 (ec k)) := by
 unfold trC at h
 split at h
 ·rename_i h1
  split at h
  ·rename_i h2;exact .inl ⟨h1,k - 20000,by omega,h⟩
  ·cases h
 ·rename_i h1
  split at h
  ·rename_i h2
   obtain ⟨b0,h3,h4⟩ := Option.map_eq_some_iff.1 h
   exact .inr ⟨h1,dq k - 20000,b0,by omega,h3,h4.symm⟩
  ·cases h
theorem eG {ns : List Nat} {j b : Nat} (h : NB ns) (hj : ns[j]? = some b) : trC ns (20000 + j) = some b := by
 have hl := (List.getElem?_eq_some_iff.1 hj).1
 have hlen := h.len
 unfold trC
 rw [if_pos (by omega),if_pos (by omega),Nat.add_sub_cancel_left,hj]
theorem kr {ns : List Nat} {j b i : Nat} (h : NB ns) (hj : ns[j]? = some b) : trC ns (enc (20000 + j) i) = some (enc b i) := by
 have hl := (List.getElem?_eq_some_iff.1 hj).1
 have hlen := h.len
 unfold trC
 rw [if_neg (ga _ _),ff _ (by omega),if_pos (by omega),fL _ (by omega),Nat.add_sub_cancel_left,hj];rfl
theorem mv {ns : List Nat} (h : NB ns) {k b : Nat} (hc : trC ns k = some b) : trB ns b = some k := by
 rcases gg hc with ⟨h1,j,rfl,h2⟩ | ⟨h1,j,b0,h2,h3,rfl⟩
 ·obtain ⟨_,hb⟩ := h.bd b (List.mem_of_getElem? h2)
  unfold trB
  rw [if_pos hb,if_pos (List.mem_of_getElem? h2),uo h.nd h2]
 ·obtain ⟨_,hb⟩ := h.bd b0 (List.mem_of_getElem? h3)
  unfold trB
  rw [if_neg (ga _ _),ff _ hb,if_pos (List.mem_of_getElem? h3),uo h.nd h3,fL _ hb,← h2,ij h1]
theorem mu {ns : List Nat} (h : NB ns) {k b : Nat} (hb : trB ns b = some k) : trC ns k = some b := by
 unfold trB at hb
 split at hb
 ·split at hb
  ·rename_i hm
   cases hb
   exact eG h (tQ hm)
  ·cases hb
 ·rename_i hbig
  split at hb
  ·rename_i hm
   cases hb
   rw [kr h (tQ hm),ij hbig]
  ·cases hb
theorem jR {ns : List Nat} {k b : Nat} (h : trC ns k = some b) : 20000 ≤ k := by
 rcases gg h with ⟨_,j,rfl,_⟩ | ⟨h1,_⟩ <;> omega
theorem vp {ns : List Nat} (h : NB ns) {k b : Nat} (hb : trB ns b = some k) : 10000 ≤ b := by
 rcases gg (mu h hb) with ⟨_,j,_,h2⟩ | ⟨_,j,b0,_,_,rfl⟩
 ·exact (h.bd b (List.mem_of_getElem? h2)).1
 ·have := ga b0 (ec k);omega
theorem xB {ns ns2 : List Nat} (hs : ∀ b,b ∈ ns → b ∈ ns2) {k b : Nat} (hb : trB ns b = some k) : ∃ k',trB ns2 b = some k' := by
 unfold trB at hb ⊢
 split at hb
 ·rename_i h1
  split at hb
  ·rename_i hm;exact ⟨_,by rw [if_pos h1,if_pos (hs _ hm)]⟩
  ·cases hb
 ·rename_i h1
  split at hb
  ·rename_i hm;exact ⟨_,by rw [if_neg h1,if_pos (hs _ hm)]⟩
  ·cases hb
theorem kG {ns : List Nat} (h : NB ns) {b b' : Nat} (hl : fP (cb 0 ns) b = some b') : trC ns b' = some b := by
 unfold fP at hl
 split at hl
 ·obtain ⟨j,_,h2,h3⟩ := fA hl
  rw [Nat.add_zero] at h2
  subst h2
  exact eG h h3
 ·rename_i hbig
  obtain ⟨b0,h1,rfl⟩ := Option.map_eq_some_iff.1 hl
  obtain ⟨j,_,h2,h3⟩ := fA h1
  rw [Nat.add_zero] at h2
  subst h2
  rw [kr h h3,ij hbig]
theorem qU {ns : List Nat} (h : NB ns) {b b' : Nat} (hl : fP (dV (cb 0 ns)) b = some b') : trC ns b = some b' := by
 unfold fP at hl
 split at hl
 ·obtain ⟨j,_,h2,h3⟩ := jK hl
  rw [Nat.add_zero] at h2
  subst h2
  exact eG h h3
 ·rename_i hbig
  obtain ⟨b0,h1,rfl⟩ := Option.map_eq_some_iff.1 hl
  obtain ⟨j,_,h2,h3⟩ := jK h1
  rw [Nat.add_zero] at h2
  have := kr (i := ec b) h h3
  rwa [← h2,ij hbig] at this
theorem ue {ns : List Nat} (h : NB ns) {bxs : List AV} {F : AV → AV} {σ : bT} (hF : ∀ x i,dK (F x) i = F (dK x i)) (hb : ∀ (j b : Nat),ns[j]? = some b → dp bxs (20000 + j) = F (bP σ b)) {k b : Nat} (hc : trC ns k = some b) : ck bxs k = F (lm σ b) := by
 rcases gg hc with ⟨h1,j,rfl,h2⟩ | ⟨h1,j,b0,h2,h3,rfl⟩
 ·obtain ⟨_,hbd⟩ := h.bd b (List.mem_of_getElem? h2)
  show lk (dp bxs) (20000 + j) = F (lk (bP σ) b)
  rw [cE h1,cE hbd];exact hb j b h2
 ·obtain ⟨hbd1,hbd2⟩ := h.bd b0 (List.mem_of_getElem? h3)
  show lk (dp bxs) k = F (lk (bP σ) (enc b0 (ec k)))
  rw [l5 _ hbd1 hbd2,← hF,← hb j b0 h3]
  unfold lk
  rw [if_neg h1,if_pos (by omega),h2]
section
variable {E : Env} {o : Oper} {σ : bT} {a : Act} {w : World} {G : Gh}
def GhC (G : Gh) (ns : List Nat) : Gh := ⟨G.Z,fun k => (trC ns k).bind G.γ,fun k => (trC ns k).elim 0 G.κ,fun k => (trC ns k).elim 0 G.β⟩
def GhB (G G' : Gh) (ns : List Nat) : Gh := ⟨G'.Z,fun k => match trB ns k with | some k' => G'.γ k' | none => G.γ k,fun k => match trB ns k with | some k' => G'.κ k' | none => G.κ k,fun k => match trB ns k with | some k' => G'.β k' | none => G.β k⟩
theorem dE (G : Gh) {ns : List Nat} {k b : Nat} (h : trC ns k = some b) : (GhC G ns).γ k = G.γ b ∧ (GhC G ns).κ k = G.κ b ∧ (GhC G ns).β k = G.β b := by
 unfold GhC
 simp [h]
theorem hJ (G : Gh) {ns : List Nat} {k g : Nat} (h : (GhC G ns).γ k = some g) : ∃ b,trC ns k = some b ∧ G.γ b = some g := Option.bind_eq_some_iff.1 h
theorem fx (G G' : Gh) {ns : List Nat} {k b : Nat} (h : trB ns b = some k) : (GhB G G' ns).γ b = G'.γ k ∧ (GhB G G' ns).κ b = G'.κ k ∧ (GhB G G' ns).β b = G'.β k := by
 unfold GhB
 simp [h]
theorem gD (G G' : Gh) {ns : List Nat} {b : Nat} (h : trB ns b = none) : (GhB G G' ns).γ b = G.γ b ∧ (GhB G G' ns).κ b = G.κ b ∧ (GhB G G' ns).β b = G.β b := by
 unfold GhB
 simp [h]
theorem u7 (h : Sim E σ a w G) {f : FuncId} {tk : Bool} {args : List AV} {vs : Array Value} (hvs : vs.size = args.length) (hargs : ∀ j (hj : j < args.length),VRel G (lm σ) (vs.getD j undef) args[j])
  (hrun : bx E.P f = true → (execOp a.eval o).run E.P w = .ok (.enter f vs) w) : Snd E.P σ (rS E.P E.N tk o f args) (d9 E o σ a w) := by
 unfold rS
 refine .need fun ⟨hok,hd⟩ => .gather (hU (by simp)) fun ns hn hb => .need fun ⟨hbox,hlen0⟩ => .call fun r bs' hfn => ?_
 have hNB : NB ns := ⟨hn,hb,by omega⟩
 have hext : ∀ k b,trC ns k = some b → ck ((ns.map (bP σ)).map (dC (cb 0 ns))) k = dC (cb 0 ns) (lm σ b) := fun k b hk =>
  ue hNB (nn _) (fun j b hj => jf (by simp [hj])) hk
 have hg : ∀ b b',fP (cb 0 ns) b = some b' → 10000 ≤ b' ∧ (∀ cs ty,lm σ b = .bc cs ty → ∃ cs',ck ((ns.map (bP σ)).map (dC (cb 0 ns))) b' = .bc cs' ty) ∧
   (∀ n e,lm σ b = .bt n e → ck ((ns.map (bP σ)).map (dC (cb 0 ns))) b' = .bt n e) ∧ (GhC G ns).γ b' = G.γ b ∧ (GhC G ns).κ b' = G.κ b ∧ (GhC G ns).β b' = G.β b ∧
   (∀ cs v e sz,lm σ b = .br cs v e sz → ∃ cs',ck ((ns.map (bP σ)).map (dC (cb 0 ns))) b' = .br cs' v e sz) := fun b b' hl => by
  have h3 := kG hNB hl
  rw [hext b' b h3]
  have := jR h3
  exact ⟨by omega,fun cs ty e => ⟨_,by rw [e];rfl⟩,fun n e he => by rw [he];rfl,(dE G h3).1,(dE G h3).2.1,(dE G h3).2.2,fun cs v e sz he => ⟨_,by rw [he];rfl⟩⟩
 have hst : BSim E.P (fun b => b < w.heap.size ∧ ∀ k,(GhC G ns).γ k ≠ some b) (GhC G ns) (ck ((ns.map (bP σ)).map (dC (cb 0 ns)))) w := by
  refine ⟨h.st.agree,fun k g hk => ?_,fun k cs ty hk hB => ?_,fun k k' g h1 h2 => ?_,h.st.gl⟩
  ·obtain ⟨b,h2,h3⟩ := hJ G hk
   obtain ⟨_,_,h4⟩ := h.st.box b g h3
   have := jR h2
   exact ⟨by omega,fun hp => hp.2 _ hk,sf (G := G) (G' := GhC G ns) rfl kf hg h4 (hext k b h2) (dE G h2).2.1 (dE G h2).2.2⟩
  ·obtain ⟨hkb,hB⟩ := fv hB
   unfold dp at hB
   split at hB
   ·rename_i hk'
    rw [List.getD_eq_getElem?_getD] at hB
    cases hj : ns[k - 20000]? with
    | none => simp [hj] at hB
    | some b =>
     simp only [List.getElem?_map,hj,Option.map_some,Option.getD_some] at hB
     have : ∃ cs',bP σ b = .bc cs' ty := by
      cases hm : bP σ b <;> rw [hm] at hB <;> simp [dC] at hB
      rename_i cs' ty'
      exact ⟨cs',by rw [hB.2]⟩
     obtain ⟨cs',hm⟩ := this
     obtain ⟨hb1,hb2⟩ := hb b (List.mem_of_getElem? hj)
     obtain ⟨g,hγ⟩ := h.st.real b cs' ty hb1 ((cE hb2).trans hm)
     refine ⟨g,?_⟩
     have := (dE G (eG hNB hj)).1
     rw [show 20000 + (k - 20000) = k by omega] at this
     exact this.trans hγ
   ·cases hB
  ·obtain ⟨b,h3,h4⟩ := hJ G h1
   obtain ⟨b',h5,h6⟩ := hJ G h2
   have := h.st.inj b b' g h4 h6
   subst this
   have e1 := mv hNB h3
   have e2 := mv hNB h5
   rw [e1] at e2;exact Option.some.inj e2
 have hargs' : ∀ j (hj : j < (args.map (ren (cb 0 ns) 4)).length),VRel (GhC G ns) (ck ((ns.map (bP σ)).map (dC (cb 0 ns)))) (vs.getD j undef) (args.map (ren (cb 0 ns) 4))[j] := fun j hj => by
  rw [List.getElem_map]
  exact jp (G := G) (G' := GhC G ns) rfl kf hg 4 (hargs j (by simpa using hj))
 have hX : XP w (fun b => b < w.heap.size ∧ ∀ k,(GhC G ns).γ k ≠ some b) := fun g cs hg => by
  obtain ⟨⟨ty,fl,h1⟩,h2⟩ := E.hB0.2 g cs hg
  exact ⟨⟨ty,fl,(h.fr.block g h2).2.trans h1⟩,Nat.lt_of_lt_of_le (h.fr.block g h2).1 h.fr.size,fun k hk => by
   obtain ⟨b',_,h4⟩ := hJ G hk
   exact (h.st.box b' g h4).2.1 h2⟩
 have hcalls := hfn w (GhC G ns) vs hst hX (by simpa using hvs) hargs'
 have back : ∀ ns2 : List Nat,(ns2 = ns ∨ ∃ key,ns2 = ns ++ [key] ∧ 10000 ≤ key ∧ key < 1000000 ∧ bP σ key = .u ∧ key ∉ ns) → bs'.length = ns2.length → Snd E.P σ (rR o ns2 r bs') (d9 E o σ a w) := fun ns2 hns2 hlen' => by
  refine .done fun Q => ?_
  have hn2 : ns2.Nodup := by
   rcases hns2 with rfl | ⟨key,rfl,_,_,_,hk⟩
   ·exact hn
   ·exact List.nodup_append.2 ⟨hn,by simp,fun x hx y hy => by simp at hy;subst hy;intro e;exact hk (e ▸ hx)⟩
  have hb2' : ∀ b ∈ ns2,10000 ≤ b ∧ b < 1000000 := fun b hbm => by
   rcases hns2 with rfl | ⟨key,rfl,hk,hk2,_,_⟩
   ·exact hb b hbm
   ·rcases List.mem_append.1 hbm with hbm | hbm
    ·exact hb b hbm
    ·simp at hbm;omega
  have hNB2 : NB ns2 := ⟨hn2,hb2',by
   rcases hns2 with rfl | ⟨key,rfl,_⟩
   ·omega
   ·simp;omega⟩
  have hsub : ∀ b,b ∈ ns → b ∈ ns2 := fun b hbm => by
   rcases hns2 with rfl | ⟨key,rfl,_,_,_⟩
   ·exact hbm
   ·exact List.mem_append_left _ hbm
  have hold0 : ∀ j b,ns2[j]? = some b → ns[j]? = some b ∨ bP σ b = .u := fun j b hj => by
   rcases hns2 with rfl | ⟨key,rfl,_,_,hu,_⟩
   ·exact .inl hj
   ·by_cases hlt : j < ns.length
    ·rw [List.getElem?_append_left hlt] at hj;exact .inl hj
    ·rw [List.getElem?_append_right (by omega)] at hj
     cases h0 : j - ns.length with
     | zero => rw [h0] at hj;simp at hj;subst hj;exact .inr hu
     | succ i => rw [h0] at hj;simp at hj
  have hold : ∀ k b,trC ns2 k = some b → trC ns k = some b ∨ lm σ b = .u := fun k b hk => by
   rcases gg hk with ⟨h1,j,rfl,h2⟩ | ⟨h1,j,b0,h2,h3,rfl⟩
   ·rcases hold0 j b h2 with h4 | h4
    ·exact .inl (eG hNB h4)
    ·exact .inr ((cE (hb2' b (List.mem_of_getElem? h2)).2).trans h4)
   ·rcases hold0 j b0 h3 with h4 | h4
    ·left
     have := kr (i := ec k) hNB h4
     rwa [← h2,ij h1] at this
    ·right
     obtain ⟨q1,q2⟩ := hb2' b0 (List.mem_of_getElem? h3)
     unfold lm
     rw [l5 _ q1 q2,h4];rfl
  unfold Oper.wp
  rw [hrun hok]
  refine Calls.mono hcalls ?_
  rintro e w' ⟨v,G',rfl,hv,hst',hw,hs',hz'⟩
  have hσ : ∀ k,bP (cL σ (gj (dV (cb 0 ns2)) ns2 bs' ++ dz o (ren (dV (cb 0 ns2)) 4 r))) k = if some k = o.dst then ren (dV (cb 0 ns2)) 4 r else bP (cL σ (gj (dV (cb 0 ns2)) ns2 bs')) k := fun k => by
   rw [k8,fd]
  obtain ⟨hb1,hb2⟩ := mQ (g := dV (cb 0 ns2)) (ns := ns2) (bs := bs') (σ := σ) hlen' hn2
  have hσb : ∀ k,10000 ≤ k → bP (cL σ (gj (dV (cb 0 ns2)) ns2 bs' ++ dz o (ren (dV (cb 0 ns2)) 4 r))) k = bP (cL σ (gj (dV (cb 0 ns2)) ns2 bs')) k := fun k hk => by
   rw [hσ,if_neg (fun e => by have h2 : k < 10000 := (fU hd k e.symm).2;omega)]
  have hatR : ∀ j b,ns2[j]? = some b → bP (cL σ (gj (dV (cb 0 ns2)) ns2 bs' ++ dz o (ren (dV (cb 0 ns2)) 4 r))) b = dC (dV (cb 0 ns2)) (dp bs' (20000 + j)) := fun j b hj => by
   rw [hσb b (hb2' b (List.mem_of_getElem? hj)).1]
   obtain ⟨h1,_⟩ := List.getElem?_eq_some_iff.1 hj
   have h2 : bs'[j]? = some bs'[j] := List.getElem?_eq_getElem (by omega)
   rw [hb1 j b _ hj h2,jf h2]
  have hnotR : ∀ k,10000 ≤ k → k ∉ ns2 → bP (cL σ (gj (dV (cb 0 ns2)) ns2 bs' ++ dz o (ren (dV (cb 0 ns2)) 4 r))) k = bP σ k := fun k hk hk' => by
   rw [hσb k hk,hb2 k hk']
  have hslot : ∀ t,t < 10000 → bP (cL σ (gj (dV (cb 0 ns2)) ns2 bs' ++ dz o (ren (dV (cb 0 ns2)) 4 r))) t = if some t = o.dst then ren (dV (cb 0 ns2)) 4 r else bP σ t := fun t ht => by
   rw [hσ]
   split
   ·rfl
   ·rw [hb2 t (fun hm => by have := (hb2' t hm).1;omega)]
  generalize cL σ (gj (dV (cb 0 ns2)) ns2 bs' ++ dz o (ren (dV (cb 0 ns2)) 4 r)) = σ2 at *
  have hat : ∀ k b,trC ns2 k = some b → lm σ2 b = dC (dV (cb 0 ns2)) (ck bs' k) := fun k b hk => by
   rcases gg hk with ⟨h1,j,rfl,h2⟩ | ⟨h1,j,b0,h2,h3,rfl⟩
   ·show lk (bP σ2) b = dC _ (lk (dp bs') (20000 + j))
    rw [cE (hb2' b (List.mem_of_getElem? h2)).2,cE h1];exact hatR j b h2
   ·obtain ⟨q1,q2⟩ := hb2' b0 (List.mem_of_getElem? h3)
    show lk (bP σ2) (enc b0 (ec k)) = dC _ (lk (dp bs') k)
    have e1 : lk (dp bs') k = dK (dp bs' (20000 + j)) (ec k) := by
     unfold lk
     rw [if_neg h1,if_pos (by omega),h2]
    rw [l5 _ q1 q2,hatR j b0 h3,nn,e1]
  have hnot : ∀ k,10000 ≤ k → trB ns2 k = none → lm σ2 k = lm σ k := fun k hk hk' => by
   unfold trB at hk'
   show lk (bP σ2) k = lk (bP σ) k
   unfold lk
   split at hk'
   ·rename_i h1
    rw [if_pos h1,if_pos h1]
    exact hnotR k hk (fun hm => by rw [if_pos hm] at hk';cases hk')
   ·rename_i h1
    rw [if_neg h1,if_neg h1]
    by_cases h2 : 10000 ≤ dq k
    ·rw [if_pos h2,if_pos h2,hnotR _ h2 (fun hm => by rw [if_pos hm] at hk';cases hk')]
    ·rw [if_neg h2,if_neg h2]
  have hgb' : ∀ b b',fP (dV (cb 0 ns2)) b = some b' → 10000 ≤ b' ∧ (∀ cs ty,ck bs' b = .bc cs ty → ∃ cs',lm σ2 b' = .bc cs' ty) ∧
    (∀ n e,ck bs' b = .bt n e → lm σ2 b' = .bt n e) ∧ (GhB G G' ns2).γ b' = G'.γ b ∧ (GhB G G' ns2).κ b' = G'.κ b ∧ (GhB G G' ns2).β b' = G'.β b ∧
    (∀ cs v e sz,ck bs' b = .br cs v e sz → ∃ cs',lm σ2 b' = .br cs' v e sz) := fun b b' hl => by
   have h3 := qU hNB2 hl
   have h4 := mv hNB2 h3
   rw [hat b b' h3]
   exact ⟨vp hNB2 h4,fun cs ty e => ⟨_,by rw [e];rfl⟩,fun n e he => by rw [he];rfl,(fx G G' h4).1,(fx G G' h4).2.1,(fx G G' h4).2.2,fun cs v e sz he => ⟨_,by rw [he];rfl⟩⟩
  have hprc : ∀ b,E.Pr b → b < w.heap.size ∧ ∀ k,(GhC G ns).γ k ≠ some b := fun b hp => by
   refine ⟨Nat.lt_of_lt_of_le (h.fr.block b hp).1 h.fr.size,fun k hk => ?_⟩
   obtain ⟨b',_,h4⟩ := hJ G hk
   exact (h.st.box b' b h4).2.1 hp
  have hfar : ∀ k g,trB ns2 k = none → G.γ k = some g → g < w.heap.size ∧ ∀ i,(GhC G ns).γ i ≠ some g := fun k g hk hγ => by
   refine ⟨eu h hγ,fun i hi => ?_⟩
   obtain ⟨b',h3,h4⟩ := hJ G hi
   have := h.st.inj k b' g hγ h4
   subst this
   obtain ⟨k',hk'⟩ := xB hsub (mv hNB h3)
   rw [hk] at hk';cases hk'
  have hs : BStep G (lm σ) (GhB G G' ns2) (lm σ2) := ⟨hs'.1,fun k hk => by
   cases hkn : trB ns2 k with
   | some k0 =>
    have hkc := mu hNB2 hkn
    have sK := hs'.2 k0 (by have := jR hkc;omega)
    rcases hold k0 k hkc with hj0 | hj0
    rotate_left
    ·exact .u hj0
    rw [hext k0 k hj0] at sK
    obtain ⟨s1,s2,s3⟩ := sK
    rw [hat k0 k hkc]
    rw [(dE G hj0).1,(dE G hj0).2.1] at s2
    rw [(dE G hj0).1,(dE G hj0).2.1,(dE G hj0).2.2] at s3
    rw [(dE G hj0).1] at s1
    unfold KStep
    rw [(fx G G' hkn).1,(fx G G' hkn).2.1,(fx G G' hkn).2.2]
    refine ⟨fun cs ty e => ?_,fun n e he => ?_,fun cs v e sz he => ?_⟩
    ·rw [e] at s1
     obtain ⟨⟨cs',h1⟩,h2⟩ := s1 _ ty rfl
     exact ⟨⟨_,by rw [h1];rfl⟩,h2⟩
    ·rw [he] at s2
     obtain ⟨n',h1,h2⟩ := s2 n e rfl
     exact ⟨n',by rw [h1];rfl,h2⟩
    ·rw [he] at s3
     obtain ⟨cs',v',h1,h2⟩ := s3 _ v e sz rfl
     exact ⟨_,v',by rw [h1];rfl,h2⟩
   | none => exact .same (hnot k hk hkn) (gD G G' hkn).1 (gD G G' hkn).2.1 (gD G G' hkn).2.2⟩
  refine ⟨GhB G G' ns2,h.put (x := ren (dV (cb 0 ns2)) 4 r) (fU hd) hs ⟨hst'.agree,fun k g hk => ?_,fun k cs ty hk hB => ?_,fun k k' g h1 h2 => ?_,hst'.gl⟩ ⟨hw.os,hw.tape,hw.output,hw.size,fun b hp hlt => hw.block b (hprc b hp) hlt⟩
   (fun b o' hp => hz' b o' (hprc b hp).1 (hprc b hp).2) (jp (G := G') (G' := GhB G G' ns2) rfl kf hgb' 4 hv) hslot⟩
  ·cases hkn : trB ns2 k with
   | some k0 =>
    rw [(fx G G' hkn).1] at hk
    obtain ⟨_,h2,h3⟩ := hst'.box _ g hk
    exact ⟨vp hNB2 hkn,fun hp => h2 (hprc g hp),sf (G := G') (G' := GhB G G' ns2) rfl kf hgb' h3 (hat k0 k (mu hNB2 hkn)) (fx G G' hkn).2.1 (fx G G' hkn).2.2⟩
   | none =>
    rw [(gD G G' hkn).1] at hk
    obtain ⟨h1,h2,h3⟩ := h.st.box k g hk
    obtain ⟨h4,h5⟩ := hfar k g hkn hk
    exact ⟨h1,h2,h3.step hs (hnot k h1 hkn) (gD G G' hkn).2.1 (gD G G' hkn).2.2 (hw.block g ⟨h4,h5⟩ h4) fun o' => hz' g o' h4 h5⟩
  ·cases hkn : trB ns2 k with
   | some k0 =>
    rw [hat k0 k (mu hNB2 hkn)] at hB
    have : ∃ cs',ck bs' k0 = .bc cs' ty := by
     cases hm : ck bs' k0 <;> rw [hm] at hB <;> simp [dC] at hB
     rename_i cs' ty'
     exact ⟨cs',by rw [hB.2]⟩
    obtain ⟨cs',hm⟩ := this
    obtain ⟨g,hγ⟩ := hst'.real _ cs' ty (by have := jR (mu hNB2 hkn);omega) hm
    exact ⟨g,(fx G G' hkn).1.trans hγ⟩
   | none =>
    rw [hnot k hk hkn] at hB
    obtain ⟨g,hγ⟩ := h.st.real k cs ty hk hB
    exact ⟨g,(gD G G' hkn).1.trans hγ⟩
  ·have mixed : ∀ k k' k0 g,trB ns2 k = some k0 → trB ns2 k' = none → (GhB G G' ns2).γ k = some g → (GhB G G' ns2).γ k' = some g → False := fun k k' k0 g hkn hkn' h1 h2 => by
    rw [(fx G G' hkn).1] at h1
    rw [(gD G G' hkn').1] at h2
    exact (hst'.box _ g h1).2.1 (hfar k' g hkn' h2)
   cases hkn : trB ns2 k with
   | some k0 =>
    cases hkn' : trB ns2 k' with
    | some k1 =>
     rw [(fx G G' hkn).1] at h1
     rw [(fx G G' hkn').1] at h2
     have e := hst'.inj _ _ g h1 h2
     subst e
     have e1 := mu hNB2 hkn
     have e2 := mu hNB2 hkn'
     rw [e1] at e2;exact Option.some.inj e2
    | none => exact (mixed k k' k0 g hkn hkn' h1 h2).elim
   | none =>
    cases hkn' : trB ns2 k' with
    | some k1 => exact (mixed k' k k1 g hkn' hkn h2 h1).elim
    | none =>
     rw [(gD G G' hkn).1] at h1
     rw [(gD G G' hkn').1] at h2
     exact h.st.inj k k' g h1 h2
 split
 ·rename_i hlen;exact back ns (.inl rfl) hlen
 ·unfold yC
  split
  ·rename_i d hdst
   refine .rd ?_
   split
   ·rename_i hu
    have hdd : d < 10000 := (fU hd d hdst).2
    refine .need fun ⟨h1,h2⟩ => back _ (.inr ⟨10000 + d,rfl,Nat.le_add_right ..,Nat.lt_trans (Nat.add_lt_add_left hdd 10000) (by decide),hu,by simpa using h1⟩) (by simpa using h2)
   ·exact .fail
  ·exact .fail
theorem nq {P : Program} {w : World} {f : FuncId} {vs : Array Value} (h : bx P f = true) : (callFunc f vs).run P w = .ok (.enter f vs) w := by
 unfold bx at h
 split at h
 ·rename_i fn hf
  simp only [Bool.and_eq_true,Bool.not_eq_true',beq_eq_false_iff_ne,ne_eq] at h
  obtain ⟨h1,h2⟩ := h
  obtain ⟨c,hc⟩ := Option.isSome_iff_exists.1 h1
  simp [callFunc,hf,h2,hc]
 ·cases h
theorem zD {G : Gh} {B : Nat → AV} {va vb : Array Value} {p q : List AV} (ha : va.size = p.length) (pa : ∀ j (h : j < p.length),VRel G B (va.getD j undef) p[j]) (pb : ∀ j (h : j < q.length),VRel G B (vb.getD j undef) q[j]) :
  ∀ j (h : j < (p ++ q).length),VRel G B ((va ++ vb).getD j undef) (p ++ q)[j] := fun j hj => by
 by_cases hlt : j < p.length
 ·have := pa j hlt
  rw [List.getElem_append_left hlt]
  simpa [Array.getD_eq_getD_getElem?,Array.getElem?_append_left (show j < va.size by omega)] using this
 ·have hj' : j - p.length < q.length := by simp at hj;omega
  have := pb (j - p.length) hj'
  rw [List.getElem_append_right (by omega)]
  simpa [Array.getD_eq_getD_getElem?,Array.getElem?_append_right (show va.size ≤ j by omega),ha] using this
theorem sn {G : Gh} {B : Nat → AV} : ∀ {l : List AV} {xs vs : List Value},xs.length = l.length → (∀ j (h : j < l.length),VRel G B (xs.getD j undef) l[j]) → l.mapM gr = some vs → xs = vs
 | [],xs,vs,hl,_,hm => by
  simp at hm;subst hm
  simpa using hl
 | x :: l,xs,vs,hl,hr,hm => by
  cases xs with
  | nil => simp at hl
  | cons y xs =>
   simp only [List.mapM_cons,Option.bind_eq_bind,Option.bind_eq_some_iff,Option.pure_def,Option.some.injEq] at hm
   obtain ⟨u,hu,us,hus,rfl⟩ := hm
   have h0 := lu (hr 0 (by simp)) hu
   simp at h0
   subst h0
   rw [sn (l := l) (xs := xs) (by simpa using hl) (fun j hj => hr (j + 1) (Nat.succ_lt_succ hj)) hus]
theorem tp (h : Sim E σ a w G) {tk : FuncId → Bool} {f : Operand} {args : Array Operand} {ts : Array TypeId} (ho : o.op = .call { callee := .value f,args := args,argTypes := ts }) :
  Snd E.P σ (rdo f fun v => rdos args.toList fun vs => nZ E.P E.N tk o v vs) (d9 E o σ a w) :=
 .rdo h fun v hv => .rdos h fun ys hl hys => by
  unfold nZ
  split
  ·rename_i fid p q
   obtain ⟨va,vb,ev,ha,hb,pa,pb⟩ := gH hv
   have hl' : ys.length = args.size := by simpa using hl
   have hrel := zD (G := G) (B := lm σ) (va := va ++ args.map a.eval) (vb := vb) (p := p ++ ys) (q := q) (by simp [ha,hl']) (zD ha pa fun j hj => by
    have hj' : j < args.size := by omega
    have := hys j (by simpa using hj') hj
    simpa [Array.getD_eq_getD_getElem?,hj'] using this) pb
   unfold qL
   split
   ·refine u7 h (vs := va ++ args.map a.eval ++ vb) (by simp [ha,hb,hl']) hrel fun hok => ?_
    have := nq (w := w) (vs := va ++ args.map a.eval ++ vb) hok
    simp only [execOp,ho,Sem.run_bind,resolve,ev,Deferred.ofValue,Sem.run_pure,Result.andThen_ok,invoke,this]
   ·unfold yA
    split
    ·rename_i vs hvs
     have e1 := sn (xs := (va ++ args.map a.eval ++ vb).toList) (by simp [ha,hb,hl']) (fun j hj => by
      have := hrel j hj
      generalize va ++ args.map a.eval ++ vb = A at this ⊢
      have e : A.toList.getD j undef = A.getD j undef := by simp [Array.getD_eq_getD_getElem?]
      rw [e];exact this) hvs
     have e2 : va ++ args.map a.eval ++ vb = vs.toArray := by rw [← e1]
     refine .ex fun r hr => cv h ?_ (.p (.c r))
     have := hr w
     rw [← e2] at this
     simp only [execOp,ho,Sem.run_bind,resolve,ev,Deferred.ofValue,Sem.run_pure,Result.andThen_ok,invoke,this]
    ·exact .fail
  ·exact .fail
theorem jd (h : Sim E σ a w G) (tk : FuncId → Bool) (o : Oper) : Snd E.P σ (aop E.P E.N tk o) (d9 E o σ a w) := by
 unfold aop
 split
 next ho => exact pU h (.inl ho)
 next ho => exact pU h (.inr ho)
 next ho => exact ve h ho
 next ho => exact tm h ho
 next ho => exact xr h ho
 next ho => exact u9 h ho
 next ho => exact tv h ho
 next ho => exact xu h ho
 next ho => exact mH h ho
 next ho => exact tq h ho
 next ho => exact mI h ho
 next ho => exact tt h ho
 next ho => exact xq h ho
 next ho => exact y3 h ho
 next ho => exact pR h ho
 next ho => exact tr h ho
 next ho => exact pS h ho
 next ho => exact tn h ho
 next ho => exact mj h ho
 next ho => exact mJ h ho
 next ho => exact tu h ho
 next ho => exact pT h ho
 next ho => exact rp h ho
 next ho => exact ml h (.inl ho)
 next ho => exact ml h (.inr ho)
 next ho => exact oA h ho
 next ho =>
  split
  next h1 h2 => exact xt (ty := 0) h h1 h2 ho
  next => exact .fail
 next ho =>
  split
  next h1 => exact vd (b := true) h h1 ho
  next => exact .fail
 next ho =>
  split
  next h1 => exact vd (b := false) h h1 ho
  next => exact .fail
 next ho =>
  split
  next h1 h2 => exact rn (ty := 0) h h1 h2 ho
  next => exact .fail
 next ho => exact tp h ho
 next => exact .fail
end
end Go.Proofs.YtmpdocplcgbpkaaGreatDoor
namespace Go.Proofs.YtmpdocplcgbpkaaGreatDoor
set_option linter.unusedSimpArgs false
set_option linter.unusedVariables false
open Go.RowKit
def jY (ops : Array Oper) (g : Nat) : Option Nat := (ops[g]?).bind (·.dst)
theorem un {b want : Bool} {A B : Prop} (h : if b = want then A else B) : (b = want → A) ∧ (b = !want → B) := by
 by_cases e : b = want
 ·rw [if_pos e] at h;exact ⟨fun _ => h,fun e' => by cases want <;> simp_all⟩
 ·rw [if_neg e] at h;exact ⟨fun e' => absurd e' e,fun _ => h⟩
def gE (P : Program) (N : Nat) (tk : FuncId → Bool) (ops : Array Oper) : List Oper → bT → (bT → Prop) → Prop
 | [],σ,K => K σ
 | o :: r,σ,K => match o.guard with
  | none => (aop P N tk o).wp P σ fun _ d => gE P N tk ops r (cL σ d) K
  | some (g,want) => match jY ops g with
   | some t => t < 10000 ∧ match bP σ t with
    | .c (.bool b) => if b = want then (aop P N tk o).wp P (cX σ t (.c (.bool want))) fun _ d => gE P N tk ops r (cL (cX σ t (.c (.bool want))) d) K
      else dj N o ∧ gE P N tk ops r (cL (cX σ t (.c (.bool (!want)))) (dz o (.c undef))) K
    | .c (.tuple _) => dj N o ∧ gE P N tk ops r (cL σ (dz o (.c undef))) K
    | _ => False
   | none => False
section
variable {E : Env} {σ : bT} {a : Act} {w : World} {G : Gh}
theorem Sim.same (h : Sim E σ a w G) {t : Nat} {v : AV} (ht : t < 10000) (hv : bP σ t = v) : Sim E (cX σ t v) a w G := by
 have hm : ∀ k,bP (cX σ t v) k = bP σ k := fun k => by
  rw [cj];split
  ·rename_i e;rw [← hv,e]
  ·rfl
 have hl : lm (cX σ t v) = lm σ := by unfold lm;rw [show bP (cX σ t v) = bP σ from funext hm]
 have hs : BStep G (lm σ) G (lm (cX σ t v)) := .congr fun k _ => by rw [hl]
 exact ⟨h.defers,h.tsize,fun k hk => by rw [hm];exact (h.slots k hk).step hs,h.st.congr fun k _ => by rw [hl],h.fr,h.step.trans hs,h.zp⟩
theorem jS (h : Sim E σ a w G) {ops : Array Oper} {g t : Nat} {b : Bool} (hd : jY ops g = some t) (ht : t < 10000) (hv : bP σ t = .c (.bool b)) : yielded ops a.tmps g = some b := by
 have h1 := h.slots t ht
 rw [hv] at h1
 have h2 := c5 h1
 unfold jY at hd
 unfold yielded
 rw [hd]
 simp only [Option.bind_some]
 rw [Array.getD_eq_getD_getElem?] at h2
 cases h3 : a.tmps[t]? with
 | none => rw [h3] at h2;simp [undef] at h2
 | some x => rw [h3] at h2;simp at h2;rw [h2]
theorem lh (h : Sim E σ a w G) {ops : Array Oper} {g t : Nat} {vs : Array Value} (hd : jY ops g = some t) (ht : t < 10000) (hv : bP σ t = .c (.tuple vs)) : yielded ops a.tmps g = none := by
 have h1 := h.slots t ht
 rw [hv] at h1
 have h2 := c5 h1
 unfold jY at hd
 unfold yielded
 rw [hd]
 simp only [Option.bind_some]
 rw [Array.getD_eq_getD_getElem?] at h2
 cases h3 : a.tmps[t]? with
 | none => rfl
 | some x => rw [h3] at h2;simp at h2;rw [h2]
theorem ji (h : Sim E σ a w G) {o : Oper} (hd : dj E.N o) : Sim E (cL σ (dz o (.c undef))) (a.put o.dst undef) w G :=
 h.put (x := .c undef) (fU hd) (.congr (gz hd _)) (h.st.congr (gz hd _)) (.refl _ _) (fun _ _ _ => rfl) (.p (.c _)) fun t _ => fd t
theorem gi {tk : FuncId → Bool} {ops : Array Oper} {K : bT → Prop} {Q : Exit → Act → World → Prop} (hQ : ∀ σ' a' w' G',K σ' → Sim E σ' a' w' G' → Q .normal a' w') :
  ∀ {l : List Oper} {σ : bT} {a : Act} {w : World} {G : Gh},gE E.P E.N tk ops l σ K → Sim E σ a w G → wpList E.P ops Q l a w
 | [],σ,a,w,G,h,hs => hQ _ _ _ _ h hs
 | o :: r,σ,a,w,G,h,hs => by
  unfold gE at h
  split at h
  ·rename_i hg
   obtain ⟨R,d,hK,hgood⟩ := jd hs tk o _ h
   refine wpList_plain hg fun K' hK' => Oper.wp_mono (fun a' w' ⟨G',hG'⟩ => hK' a' w' (gi hQ hK hG')) (hgood Q)
  ·rename_i g want hg
   split at h
   ·rename_i t ht
    obtain ⟨ht',h⟩ := h
    split at h
    ·rename_i b hb
     have h := un h
     have hy := jS hs ht ht' hb
     by_cases hbw : b = want
     ·subst hbw
      have hs' := hs.same ht' hb
      obtain ⟨R,d,hK,hgood⟩ := jd hs' tk o _ (h.1 rfl)
      refine wpList_step fun K' hK' => ?_
      rw [if_pos (by simp [Region.wanted,hg,hy])]
      exact Oper.wp_mono (fun a' w' ⟨G',hG'⟩ => hK' a' w' (gi hQ hK hG')) (hgood Q)
     ·have hbn : b = !want := by cases b <;> cases want <;> simp_all
      obtain ⟨hd,h2⟩ := h.2 hbn
      have hs' := hs.same ht' (hbn ▸ hb)
      refine wpList_step fun K' hK' => ?_
      rw [if_neg (by simp [Region.wanted,hg,hy,hbw])]
      exact hK' _ _ (gi hQ h2 (ji hs' hd))
    ·rename_i vs hb
     have hy := lh hs ht ht' hb
     refine wpList_step fun K' hK' => ?_
     rw [if_neg (by simp [Region.wanted,hg,hy])]
     exact hK' _ _ (gi hQ h.2 (ji hs h.1))
    ·exact h.elim
   ·exact h.elim
end
def aw (E : Env) (c : Code) (Q : Exit → bT → Prop) (σ : bT) : Prop :=
 ∀ a w G,Sim E σ a w G → c.wp E.P (fun e a' w' => ∃ σ' G',Q e σ' ∧ Sim E σ' a' w' G') a w
def lf (K : bT → Prop) (Q : Exit → bT → Prop) : Exit → bT → Prop
 | .normal,σ => K σ
 | e,σ => Q e σ
def ie (id : Nat) (Q : Exit → bT → Prop) : Exit → bT → Prop
 | .exit i,σ => if i = id then Q .normal σ else Q (.exit i) σ
 | e,σ => Q e σ
def x4 (P : Program) (c : Code) (Q : Exit → Act → World → Prop) (a : Act) (w : World) : Prop :=
 ∀ (b : Frame) (k : List Item) (cs : List Frame),∃ e a' w',Q e a' w' ∧ Arrives P (lone (b.at a (.code c :: .inLoop c :: k)) cs w) b k cs e a' w'
def awl (E : Env) (c : Code) (Q : Exit → bT → Prop) (σ : bT) : Prop :=
 ∀ a w G,Sim E σ a w G → x4 E.P c (fun e a' w' => ∃ σ' G',Q e σ' ∧ Sim E σ' a' w' G') a w
section
variable {E : Env} {Q : Exit → bT → Prop} {σ : bT}
theorem aS {x y : Code} (h : aw E x (lf (aw E y Q) Q) σ) : aw E (.seq x y) Q σ := fun a w G hs => by
 refine wp_seq (Code.wp_mono (fun e a' w' ⟨σ',G',h1,h2⟩ => ?_) (h a w G hs))
 cases e with
 | normal => exact h1 a' w' G' h2
 | _ => exact ⟨σ',G',h1,h2⟩
theorem ah {id : Nat} {c : Code} (h : aw E c (ie id Q) σ) : aw E (.block id c) Q σ := fun a w G hs => by
 refine wp_block (Code.wp_mono (fun e a' w' ⟨σ',G',h1,h2⟩ => ?_) (h a w G hs))
 cases e with
 | exit i =>
  simp only [ie] at h1
  simp only [Exit.inBlock]
  split
  ·rename_i e;rw [if_pos e] at h1;exact ⟨σ',G',h1,h2⟩
  ·rename_i e;rw [if_neg e] at h1;exact ⟨σ',G',h1,h2⟩
 | _ => exact ⟨σ',G',h1,h2⟩
theorem av (h : Q .normal σ) : aw E .skip Q σ := fun a w G hs => wp_skip ⟨σ,G,h,hs⟩
theorem aL (h : Q .ret σ) : aw E .ret Q σ := fun a w G hs => wp_ret ⟨σ,G,h,hs⟩
theorem ar {id : Nat} (h : Q (.exit id) σ) : aw E (.exit id) Q σ := fun a w G hs => wp_exit ⟨σ,G,h,hs⟩
theorem vM {t : Nat} {b : Bool} {x y : Code} (ht : t < 10000) (hb : bP σ t = .c (.bool b)) (h1 : b = true → aw E x Q σ) (h2 : b = false → aw E y Q σ) : aw E (.cond (.tmp t) x y) Q σ := fun a w G hs => by
 have h3 := hs.slots t ht
 rw [hb] at h3
 exact wp_cond_split (c5 h3) (fun e => h1 e a w G hs) (fun e => h2 e a w G hs)
theorem sI (tk : FuncId → Bool) {id : Nat} {l : List Oper} (h : ∀ K : bT → Prop,(∀ σ',Q .normal σ' → K σ') → gE E.P E.N tk l.toArray l σ K) : aw E (.region id l.toArray false) Q σ := fun a w G hs =>
 wp_region_lit (gi (fun σ' a' w' G' h1 h2 => ⟨σ',G',h1,h2⟩) (h _ fun _ h => h) hs)
theorem au {c : Code} (h : awl E c Q σ) : aw E (.loop c) Q σ := fun a w G hs b k cs => by
 obtain ⟨e,a',w',hq,harr⟩ := h a w G hs b k cs
 exact ⟨e,a',w',hq,.of_steps (.one step_loop) harr⟩
theorem fb {c : Code} (h : aw E c (lf (awl E c Q) Q) σ) : awl E c Q σ := fun a w G hs b k cs => by
 obtain ⟨e,a₁,w₁,⟨σ',G',hq,hs'⟩,harr⟩ := h a w G hs b (.inLoop c :: k) cs
 cases e with
 | normal =>
  obtain ⟨e₂,a₂,w₂,hq₂,harr₂⟩ := hq a₁ w₁ G' hs' b k cs
  exact ⟨e₂,a₂,w₂,hq₂,.of_steps (Steps.trans harr (.one step_inLoop)) harr₂⟩
 | _ => exact ⟨_,a₁,w₁,⟨σ',G',hq,hs'⟩,.pass (x := .inLoop c) rfl (fun _ _ => .inl (by simp)) harr⟩
def ALe (E : Env) (σ σ' : bT) : Prop := ∀ a w G,Sim E σ a w G → ∃ G',Sim E σ' a w G'
theorem fY {σ' : bT} {c : Code} (hl : ALe E σ σ') (h : aw E c Q σ') : aw E c Q σ := fun a w G hs => by
 obtain ⟨G',hs'⟩ := hl a w G hs
 exact h a w G' hs'
theorem d5 {σ' : bT} {c : Code} (hl : ALe E σ σ') (h : awl E c Q σ') : awl E c Q σ := fun a w G hs => by
 obtain ⟨G',hs'⟩ := hl a w G hs
 exact h a w G' hs'
def gp (L : List Nat) : bT → bT
 | [] => []
 | (k,v) :: r => if k < 10000 ∧ L.contains k = false then gp L r else (k,v) :: gp L r
theorem go (L : List Nat) (k : Nat) : ∀ σ : bT,bP (gp L σ) k = bP σ k ∨ (bP (gp L σ) k = .u ∧ k < 10000)
 | [] => .inl rfl
 | (i,v) :: r => by
  unfold gp
  split
  ·rename_i hc
   by_cases e : i = k
   ·subst e
    rcases go L i r with h | h
    ·have : bP (gp L r) i = .u := mkeep_none L i hc r
     exact .inr ⟨this,hc.1⟩
    ·exact .inr h
   ·rcases go L k r with h | h
    ·left;simp only [bP,if_neg e];exact h
    ·exact .inr h
  ·simp only [bP]
   split
   ·exact .inl rfl
   ·exact go L k r
where
 mkeep_none (L : List Nat) (i : Nat) (hc : i < 10000 ∧ L.contains i = false) : ∀ r : bT,bP (gp L r) i = .u
  | [] => rfl
  | (j,v) :: r => by
   unfold gp
   split
   ·exact mkeep_none L i hc r
   ·rename_i h
    simp only [bP]
    rw [if_neg (fun e : j = i => h (e ▸ hc))]
    exact mkeep_none L i hc r
theorem tL (L : List Nat) (σ : bT) : ALe E σ (gp L σ) := fun a w G hs => by
 have hb : ∀ k,10000 ≤ k → bP (gp L σ) k = bP σ k := fun k hk => (go L k σ).resolve_right fun h => by omega
 have hb : ∀ k,10000 ≤ k → lm (gp L σ) k = lm σ k := lZ fun k hk _ => hb k hk
 have hst : BStep G (lm σ) G (lm (gp L σ)) := .congr hb
 refine ⟨G,hs.defers,hs.tsize,fun t ht => ?_,hs.st.congr hb,hs.fr,hs.step.trans hst,hs.zp⟩
 rcases go L t σ with h | ⟨h,_⟩
 ·rw [h];exact (hs.slots t ht).step hst
 ·rw [h];exact .p (.u _)
end
end Go.Proofs.YtmpdocplcgbpkaaGreatDoor
namespace Go.Proofs.YtmpdocplcgbpkaaGreatDoor
set_option linter.unusedSimpArgs false
set_option linter.unusedVariables false
open Go.RowKit
abbrev Rec := List Nat × List (Nat × AV)
def iI : List (Nat × AV) → Nat → Option AV
 | [],_ => none
 | (k,v) :: r,i => match iI r i with
  | some x => some x
  | none => if k = i then some v else none
theorem gZ (d : List (Nat × AV)) : ∀ (σ : bT) (k : Nat),bP (cL σ d) k = (iI d k).getD (bP σ k) := by
 induction d with
 | nil => intro σ k;rfl
 | cons p r ih =>
  obtain ⟨i,v⟩ := p
  intro σ k
  show bP (cL (cX σ i v) r) k = _
  rw [ih,cj]
  simp only [iI]
  cases iI r k with
  | some x => rfl
  | none => simp only [Option.getD_none];split <;> rfl
def oZ (F : Nat → AV) (d : List (Nat × AV)) : Nat → AV := fun k => (iI d k).getD (F k)
theorem lookD_mem : ∀ {d : List (Nat × AV)} {k : Nat},(iI d k).isSome = true ↔ k ∈ d.map (·.1)
 | [],k => by simp [iI]
 | (i,v) :: r,k => by
  have ih := lookD_mem (d := r) (k := k)
  simp only [iI,List.map_cons,List.mem_cons]
  cases h : iI r k with
  | some x => rw [h] at ih;simp at ih ⊢;exact .inr ih
  | none =>
   rw [h] at ih
   simp only [Option.isSome_none,Bool.false_eq_true,false_iff] at ih
   by_cases e : i = k
   ·simp [e]
   ·rw [if_neg e];simp [ih];exact fun h => e h.symm
theorem jJ {d : List (Nat × AV)} {k : Nat} (h : k ∉ d.map (·.1)) : iI d k = none := by
 cases h' : iI d k with
 | none => rfl
 | some x => exact absurd (lookD_mem.1 (by rw [h'];rfl)) h
theorem l7 {d : List (Nat × AV)} {k : Nat} (h : k ∈ d.map (·.1)) : ∃ x,iI d k = some x := Option.isSome_iff_exists.1 (lookD_mem.2 h)
def fa (P : Program) (N : Nat) (tk : FuncId → Bool) (ops : Array Oper) : List Oper → bT → List Rec → (bT → List Rec → Prop) → Prop
 | [],σ,acc,K => K σ acc
 | o :: r,σ,acc,K => match o.guard with
  | none => (aop P N tk o).wp P σ fun R d => fa P N tk ops r (cL σ d) (acc ++ [(R,d)]) K
  | some (g,want) => match jY ops g with
   | some t => t < 10000 ∧ match bP σ t with
    | .c (.bool b) => if b = want then (aop P N tk o).wp P (cX σ t (.c (.bool want))) fun R d => fa P N tk ops r (cL (cX σ t (.c (.bool want))) d) (acc ++ [(t :: R,d)]) K
      else dj N o ∧ fa P N tk ops r (cL (cX σ t (.c (.bool (!want)))) (dz o (.c undef))) (acc ++ [([t],dz o (.c undef))]) K
    | .c (.tuple _) => dj N o ∧ fa P N tk ops r (cL σ (dz o (.c undef))) (acc ++ [([t],dz o (.c undef))]) K
    | _ => False
   | none => False
section
variable {E : Env}
theorem Sim.ext {σ σ' : bT} {a : Act} {w : World} {G : Gh} (h : Sim E σ a w G) (he : ∀ k,bP σ' k = bP σ k) : Sim E σ' a w G := by
 exact h.ext' he
def nG (E : Env) (ops : Array Oper) (o : Oper) (F : Nat → AV) (x : Rec) : Prop :=
 ∀ σ,(∀ k ∈ x.1,bP σ k = F k) → ∀ a w G (K' : Act → World → Prop) (Q : Exit → Act → World → Prop),Sim E σ a w G → (∀ a' w' G',Sim E (cL σ x.2) a' w' G' → K' a' w') →
  if Region.wanted o (yielded ops a.tmps) then o.wp E.P a w K' Q else K' (a.put o.dst undef) w
def iG (F : Nat → AV) (l : List Rec) : Nat → AV := l.foldl (fun F x => oZ F x.2) F
theorem kS {tk : FuncId → Bool} {ops : Array Oper} {K : bT → List Rec → Prop} : ∀ {l : List Oper} {σ : bT} {acc : List Rec} (hsim : True),fa E.P E.N tk ops l σ acc K →
  ∃ recs σ',K σ' (acc ++ recs) ∧ recs.length = l.length ∧ (∀ i (h1 : i < l.length) (h2 : i < recs.length),nG E ops l[i] (iG (bP σ) (recs.take i)) recs[i]) ∧ ∀ k,bP σ' k = iG (bP σ) recs k
 | [],σ,acc,_,h => ⟨[],σ,by have h' : K σ acc := h;simpa using h',rfl,fun i h1 => by simp at h1,fun k => rfl⟩
 | o :: r,σ,acc,_,h => by
  have cont : ∀ (σ1 : bT) (x : Rec),(∀ k,bP σ1 k = oZ (bP σ) x.2 k) → nG E ops o (bP σ) x → fa E.P E.N tk ops r σ1 (acc ++ [x]) K →
    ∃ recs σ',K σ' (acc ++ recs) ∧ recs.length = (o :: r).length ∧ (∀ i (h1 : i < (o :: r).length) (h2 : i < recs.length),nG E ops (o :: r)[i] (iG (bP σ) (recs.take i)) recs[i]) ∧ ∀ k,bP σ' k = iG (bP σ) recs k := fun σ1 x h1 h2 h3 => by
   obtain ⟨recs,σ',k1,k2,k3,k4⟩ := kS (l := r) trivial h3
   have hf : bP σ1 = oZ (bP σ) x.2 := funext h1
   refine ⟨x :: recs,σ',by simpa using k1,by simp [k2],fun i h4 h5 => ?_,fun k => ?_⟩
   ·cases i with
    | zero => exact h2
    | succ i =>
     have := k3 i (by simpa using h4) (by simpa using h5)
     rw [hf] at this
     exact this
   ·rw [k4,hf];rfl
  unfold fa at h
  split at h
  ·rename_i hg
   obtain ⟨R,d,h1,h2⟩ := TR.frame h
   refine cont _ (R,d) (fun k => gZ d σ k) (fun σ' hσ a w G K' Q hs hK' => ?_) h1
   obtain ⟨R',d',⟨_,rfl⟩,hgood⟩ := jd hs tk o _ (h2 σ' hσ)
   rw [if_pos (by simp [Region.wanted,hg])]
   exact Oper.wp_mono (fun a' w' ⟨G',hG'⟩ => hK' a' w' G' hG') (hgood Q)
  ·rename_i g want hg
   split at h
   ·rename_i t ht
    obtain ⟨ht',h⟩ := h
    split at h
    ·rename_i b hb
     have h := un h
     have same : ∀ v,v = AV.c (.bool b) → ∀ k,bP (cX σ t v) k = bP σ k := fun v hv k => by
      rw [cj];split
      ·rename_i e;subst e;rw [hb,hv]
      ·rfl
     by_cases hbw : b = want
     ·subst hbw
      obtain ⟨R,d,h1,h2⟩ := TR.frame (h.1 rfl)
      refine cont _ (t :: R,d) (fun k => by rw [gZ,same _ rfl];rfl) (fun σ' hσ a w G K' Q hs hK' => ?_) h1
      have hy := jS hs ht ht' ((hσ t (by simp)).trans hb)
      obtain ⟨R',d',⟨_,rfl⟩,hgood⟩ := jd hs tk o _ (h2 σ' fun k hk => (hσ k (by simp [hk])).trans (same _ rfl k).symm)
      rw [if_pos (by simp [Region.wanted,hg,hy])]
      exact Oper.wp_mono (fun a' w' ⟨G',hG'⟩ => hK' a' w' G' hG') (hgood Q)
     ·have hbn : b = !want := by cases b <;> cases want <;> simp_all
      obtain ⟨hd,h2⟩ := h.2 hbn
      refine cont _ ([t],dz o (.c undef)) (fun k => by rw [gZ,same _ (by rw [hbn])];rfl) (fun σ' hσ a w G K' Q hs hK' => ?_) h2
      have hy := jS hs ht ht' ((hσ t (by simp)).trans hb)
      rw [if_neg (by simp [Region.wanted,hg,hy,hbw])]
      exact hK' _ _ _ (ji hs hd)
    ·rename_i vs hb
     refine cont _ ([t],dz o (.c undef)) (fun k => gZ _ σ k) (fun σ' hσ a w G K' Q hs hK' => ?_) h.2
     have hy := lh hs ht ht' ((hσ t (by simp)).trans hb)
     rw [if_neg (by simp [Region.wanted,hg,hy])]
     exact hK' _ _ _ (ji hs h.1)
    ·exact h.elim
   ·exact h.elim
def pp (a b : List Nat) : Bool := a.any fun x => b.contains x
def fz (x y : Rec) : Bool := pp (x.2.map (·.1)) y.1 || pp x.1 (y.2.map (·.1)) || pp (x.2.map (·.1)) (y.2.map (·.1))
def xN (anc : List (List Nat)) (o : Oper) : List Nat := o.after.toList.flatMap fun e => if Region.binds .any e then e.on :: anc.getD e.on [] else []
def vJ : List Oper → List (List Nat) → List (List Nat)
 | [],anc => anc
 | o :: r,anc => vJ r (anc ++ [xN anc o])
def jH (ops : List Oper) (recs : List Rec) : Bool :=
 (ops.zipIdx.all fun p => p.1.after.toList.all fun e => !Region.binds .any e || decide (e.on < p.2)) &&
 (List.range ops.length).all fun j => (List.range j).all fun i => !fz (recs.getD i ([],[])) (recs.getD j ([],[])) || ((vJ ops []).getD j []).contains i
inductive oN (ops : List Oper) : Nat → Nat → Prop
 | edge (i j : Nat) (o : Oper) (e : Edge) (ho : ops[j]? = some o) (he : e ∈ o.after) (hb : Region.binds .any e = true) (hi : e.on = i) : oN ops i j
 | more (i j : Nat) (o : Oper) (e : Edge) (ho : ops[j]? = some o) (he : e ∈ o.after) (hb : Region.binds .any e = true) (hp : oN ops i e.on) : oN ops i j
theorem mN {ops : List Oper} : ∀ {l done : List Oper} {acc : List (List Nat)},ops = done ++ l → acc.length = done.length → (∀ j i,i ∈ acc.getD j [] → oN ops i j) → ∀ j i,i ∈ (vJ l acc).getD j [] → oN ops i j
 | [],done,acc,_,_,h => h
 | o :: r,done,acc,ho,hl,h => by
  refine mN (l := r) (done := done ++ [o]) (by rw [ho];simp) (by simp [hl]) fun j i hi => ?_
  rcases Nat.lt_trichotomy j acc.length with hj | hj | hj
  ·rw [List.getD_eq_getElem?_getD,List.getElem?_append_left hj] at hi
   exact h j i (by rw [List.getD_eq_getElem?_getD];exact hi)
  ·have hoj : ops[j]? = some o := by rw [ho,hj,hl];simp
   rw [List.getD_eq_getElem?_getD,hj,List.getElem?_append_right (Nat.le_refl _)] at hi
   simp only [Nat.sub_self,List.getElem?_cons_zero,Option.getD_some] at hi
   unfold xN at hi
   obtain ⟨e,he,hi⟩ := List.mem_flatMap.1 hi
   split at hi
   ·rename_i hb
    rcases List.mem_cons.1 hi with rfl | hi
    ·exact .edge _ j o e hoj (by simpa using he) hb rfl
    ·exact .more i j o e hoj (by simpa using he) hb (h e.on i hi)
   ·simp at hi
  ·rw [List.getD_eq_getElem?_getD,List.getElem?_eq_none (by simp;omega)] at hi
   simp at hi
section order
variable {E : Env} {ops : Array Oper} {recs : List Rec} {F : Nat → AV}
def part (F : Nat → AV) (recs : List Rec) (D : Nat → Bool) : Nat → Nat → AV
 | 0 => F
 | m + 1 => if D m then oZ (part F recs D m) (recs.getD m ([],[])).2 else part F recs D m
def so (recs : List Rec) (i : Nat) : List Nat := (recs.getD i ([],[])).2.map (·.1)
theorem jo {D D' : Nat → Bool} {k : Nat} : ∀ {m : Nat},(∀ i,i < m → k ∈ so recs i → D i = D' i) → part F recs D m k = part F recs D' m k
 | 0,_ => rfl
 | m + 1,h => by
  have ih := jo (m := m) fun i hi hk => h i (by omega) hk
  by_cases hk : k ∈ so recs m
  ·have e := h m (by omega) hk
   simp only [part,e]
   split
   ·obtain ⟨x,hx⟩ := l7 hk
    simp only [oZ,hx,Option.getD_some]
   ·exact ih
  ·have hn := jJ hk
   simp only [part]
   split <;> split <;> (try simp only [oZ,hn,Option.getD_none]) <;> exact ih
theorem kL {D : Nat → Bool} {k : Nat} {j : Nat} : ∀ {m : Nat},j ≤ m → (∀ i,j ≤ i → i < m → D i = true → k ∉ so recs i) → part F recs D m k = part F recs D j k
 | 0,hj,_ => by obtain rfl : j = 0 := (by omega);rfl
 | m + 1,hj,h => by
  by_cases e : j = m + 1
  ·rw [e]
  ·have ih := kL (m := m) (by omega) fun i h1 h2 h3 => h i h1 (by omega) h3
   simp only [part]
   split
   ·rename_i hd
    simp only [oZ,jJ (h m (by omega) (by omega) hd),Option.getD_none];exact ih
   ·exact ih
theorem me : ∀ {m : Nat},m ≤ recs.length → part F recs (fun _ => true) m = iG F (recs.take m)
 | 0,_ => rfl
 | m + 1,h => by
  rw [List.take_succ_eq_append_getElem (by omega)]
  simp only [iG,List.foldl_append,List.foldl_cons,List.foldl_nil,part,if_true]
  rw [me (m := m) (by omega),List.getD_eq_getElem?_getD,List.getElem?_eq_getElem (by omega)]
  rfl
theorem meets_iff {a b : List Nat} : pp a b = true ↔ ∃ x,x ∈ a ∧ x ∈ b := by simp [pp]
theorem sG (hlen : recs.length = ops.size) (hok : jH ops.toList recs = true) {Q : Exit → Act → World → Prop} (hstep : ∀ i (h1 : i < ops.size) (h2 : i < recs.length),nG E ops ops[i] (iG F (recs.take i)) recs[i])
  (hQ : ∀ σ a w G,(∀ k,bP σ k = iG F recs k) → Sim E σ a w G → Q .normal a w) :
  ∀ (fuel : Nat) (listed : Array Bool) (σ : bT) (a : Act) (w : World) (G : Gh),listed.size = ops.size → ((List.range ops.size).filter fun i => !listed.getD i false).length ≤ fuel →
   (∀ j o e,listed.getD j false = true → ops[j]? = some o → e ∈ o.after → Region.binds .any e = true → listed.getD e.on false = true) →
   (∀ k,bP σ k = part F recs (fun i => listed.getD i false) ops.size k) → Sim E σ a w G → wpAny E.P .any ops Q fuel listed a w := by
 have hok' := hok
 simp only [jH,Bool.and_eq_true,List.all_eq_true,List.mem_range,Bool.or_eq_true,Bool.not_eq_true',decide_eq_true_eq] at hok'
 obtain ⟨hdown,hconf⟩ := hok'
 have hpath : ∀ j i,i ∈ (vJ ops.toList []).getD j [] → oN ops.toList i j := mN (done := []) rfl rfl fun j i h => by simp at h
 have hconf' : ∀ i j,i < j → j < ops.size → fz (recs.getD i ([],[])) (recs.getD j ([],[])) = true → oN ops.toList i j := fun i j hij hj hc => by
  rcases hconf j (by simpa using hj) i hij with h | h
  ·rw [h] at hc;cases hc
  ·exact hpath j i (by simpa using h)
 have closed : ∀ (listed : Array Bool),(∀ j o e,listed.getD j false = true → ops[j]? = some o → e ∈ o.after → Region.binds .any e = true → listed.getD e.on false = true) →
   ∀ i j,oN ops.toList i j → (∀ o,ops[j]? = some o → ∀ e ∈ o.after,Region.binds .any e = true → listed.getD e.on false = true) → listed.getD i false = true := fun listed hcl i j hp => by
  induction hp with
  | edge j o e ho he hb hi => intro h;rw [← hi];exact h o (by simpa using ho) e he hb
  | more j o e ho he hb hp ih =>
   intro h
   have h1 := h o (by simpa using ho) e he hb
   exact ih fun o' ho' e' he' hb' => hcl e.on o' e' h1 ho' he' hb'
 have ready_nil : ∀ (listed : Array Bool),listed.size = ops.size → Region.ready .any ops listed = [] → ∀ i,i < ops.size → listed.getD i false = true := fun listed hsz hr i => by
  induction i using Nat.strongRecOn with
  | _ i ih =>
   intro hi
   cases h : listed.getD i false with
   | true => rfl
   | false =>
    exfalso
    have : i ∈ Region.ready .any ops listed := by
     rw [mem_ready]
     refine ⟨?_,ops[i],by simp [hi],fun e he hb => ?_⟩
     ·rw [Array.getD_eq_getD_getElem?] at h ⊢
      have : i < listed.size := by omega
      rw [Array.getElem?_eq_getElem this] at h ⊢
      exact h
     ·have h1 := hdown (ops[i],i) (by
       rw [List.mem_zipIdx_iff_getElem?];simp [hi]) e (by simpa using he)
      rcases h1 with h1 | h1
      ·rw [hb] at h1;cases h1
      ·exact ih e.on h1 (by omega)
    rw [hr] at this;cases this
 have final : ∀ (listed : Array Bool) (σ : bT) (a : Act) (w : World) (G : Gh),listed.size = ops.size → (∀ k,bP σ k = part F recs (fun i => listed.getD i false) ops.size k) → Sim E σ a w G → Region.ready .any ops listed = [] → Q .normal a w := fun listed σ a w G hsz hσ hs hr => by
  refine hQ σ a w G (fun k => ?_) hs
  rw [hσ,jo (D' := fun _ => true) fun i hi _ => ready_nil listed hsz hr i hi,me (by omega),← hlen,List.take_length]
 intro fuel
 induction fuel with
 | zero =>
  intro listed σ a w G hsz hcount hcl hσ hs
  have hr : Region.ready .any ops listed = [] := by
   apply List.eq_nil_iff_forall_not_mem.2
   intro j hj
   rw [mem_ready] at hj
   obtain ⟨h1,o,ho,_⟩ := hj
   have hlt := (Array.getElem?_eq_some_iff.1 ho).1
   have h2 : ((List.range ops.size).filter fun i => !listed.getD i false) = [] := List.eq_nil_of_length_eq_zero (by omega)
   have h3 : j ∈ ((List.range ops.size).filter fun i => !listed.getD i false) := by
    rw [List.mem_filter]
    refine ⟨by simpa using hlt,?_⟩
    have h4 : j < listed.size := by omega
    rw [Array.getD_eq_getD_getElem?,Array.getElem?_eq_getElem h4] at h1 ⊢
    simpa using h1
   rw [h2] at h3;cases h3
  exact ⟨hr,final listed σ a w G hsz hσ hs hr⟩
 | succ fuel ih =>
  intro listed σ a w G hsz hcount hcl hσ hs
  refine ⟨final listed σ a w G hsz hσ hs,fun j hj => ?_⟩
  rw [mem_ready] at hj
  obtain ⟨h1,o,ho,hpre⟩ := hj
  have hlt := (Array.getElem?_eq_some_iff.1 ho).1
  have hoj : ops[j] = o := (Array.getElem?_eq_some_iff.1 ho).2
  have hD : listed.getD j false = false := by
   have h4 : j < listed.size := by omega
   rw [Array.getD_eq_getD_getElem?,Array.getElem?_eq_getElem h4] at h1 ⊢
   exact h1
  have hrec : recs.getD j ([],[]) = recs[j] := by rw [List.getD_eq_getElem?_getD,List.getElem?_eq_getElem (by omega)];rfl
  have early : ∀ i,i < j → fz (recs.getD i ([],[])) (recs.getD j ([],[])) = true → listed.getD i false = true := fun i hij hc =>
   closed listed hcl i j (hconf' i j hij hlt hc) fun o' ho' e he hb => by rw [ho] at ho';cases ho';exact hpre e he hb
  have late : ∀ i,j < i → i < ops.size → listed.getD i false = true → fz (recs.getD j ([],[])) (recs.getD i ([],[])) = true → False := fun i hji hi hdi hc => by
   have := closed listed hcl j i (hconf' j i hji hi hc) fun o' ho' e he hb => hcl i o' e hdi ho' he hb
   rw [hD] at this;cases this
  have hread : ∀ k ∈ (recs[j]'(by omega)).1,bP σ k = iG F (recs.take j) k := fun k hk => by
   rw [hσ,← me (by omega),kL (j := j) (by omega),jo (D' := fun _ => true)]
   ·intro i hi hw
    refine early i hi ?_
    simp only [fz,Bool.or_eq_true]
    exact .inl (.inl (meets_iff.2 ⟨k,hw,by rw [hrec];exact hk⟩))
   ·intro i h5 h6 h7 hw
    by_cases e : i = j
    ·subst e;rw [hD] at h7;cases h7
    ·refine late i (by omega) h6 h7 ?_
     simp only [fz,Bool.or_eq_true]
     exact .inl (.inr (meets_iff.2 ⟨k,by rw [hrec];exact hk,hw⟩))
  have hst := hstep j hlt (by omega)
  rw [hoj] at hst
  have next : ∀ a' w' G',Sim E (cL σ (recs[j]'(by omega)).2) a' w' G' → wpAny E.P .any ops Q fuel (listed.setIfInBounds j true) a' w' := fun a' w' G' hs' => by
   have hset : ∀ i,(listed.setIfInBounds j true).getD i false = if i = j then true else listed.getD i false := fun i => by
    by_cases e : i = j
    ·subst e;rw [if_pos rfl,Array.getD_eq_getD_getElem?,Array.getElem?_setIfInBounds_self_of_lt (by omega)];rfl
    ·rw [if_neg e,getD_set_ne false (fun h => e h.symm)]
   refine ih (listed.setIfInBounds j true) _ a' w' G' (by simpa using hsz) ?_ (fun i o' e hi ho' he hb => ?_) (fun k => ?_) hs'
   ·have hmem : j ∈ (List.range ops.size).filter fun i => !listed.getD i false := by
     rw [List.mem_filter];exact ⟨by simpa using hlt,by rw [hD];rfl⟩
    have hsub : ((List.range ops.size).filter fun i => !(listed.setIfInBounds j true).getD i false) = ((List.range ops.size).filter fun i => !listed.getD i false).filter (fun i => i != j) := by
     rw [List.filter_filter]
     apply List.filter_congr
     intro i _
     rw [hset]
     by_cases e : i = j <;> simp [e]
    rw [hsub]
    have : (((List.range ops.size).filter fun i => !listed.getD i false).filter (fun i => i != j)).length < ((List.range ops.size).filter fun i => !listed.getD i false).length := by
     apply List.length_filter_lt_length_iff_exists.2
     exact ⟨j,hmem,by simp⟩
    omega
   ·rw [hset]
    by_cases e2 : e.on = j
    ·rw [if_pos e2]
    ·rw [if_neg e2]
     rw [hset] at hi
     by_cases e3 : i = j
     ·subst e3;rw [ho] at ho';cases ho';exact hpre e he hb
     ·rw [if_neg e3] at hi;exact hcl i o' e hi ho' he hb
   ·rw [gZ,hσ]
    by_cases hk : k ∈ so recs j
    ·obtain ⟨x,hx⟩ := l7 hk
     rw [hrec] at hx
     rw [hx,Option.getD_some]
     have e1 := kL (F := F) (recs := recs) (D := fun i => (listed.setIfInBounds j true).getD i false) (k := k) (j := j + 1) (m := ops.size) (by omega) (fun i h5 h6 h7 hw => by
      rw [hset,if_neg (by omega)] at h7
      refine late i (by omega) h6 h7 ?_
      simp only [fz,Bool.or_eq_true]
      exact .inr (meets_iff.2 ⟨k,hk,hw⟩))
     rw [e1]
     simp only [part,hset,if_true,oZ,hrec,hx,Option.getD_some]
    ·have hn := jJ hk
     rw [hrec] at hn
     rw [hn,Option.getD_none]
     exact jo fun i hi hw => by rw [hset,if_neg (fun e : i = j => hk (e ▸ hw))]
  have hcase := hst σ hread a w G (wpAny E.P .any ops Q fuel (listed.setIfInBounds j true)) Q hs next
  unfold wpOp
  rw [ho]
  simp only
  split
  ·rename_i hw;rw [if_pos hw] at hcase;exact .inl hcase
  ·rename_i hw;rw [if_neg hw] at hcase;exact hcase
theorem t8 {σ : bT} {a : Act} {w : World} {G : Gh} (h : Sim E σ a w G) : Sim E σ a { w with drawn := w.drawn + 1 } G :=
 ⟨h.defers,h.tsize,h.slots,⟨h.st.agree,h.st.box,h.st.real,h.st.inj,h.st.gl⟩,⟨h.fr.os,h.fr.tape,h.fr.output,h.fr.size,h.fr.block⟩,h.step,h.zp⟩
theorem tT (tk : FuncId → Bool) {Q : Exit → bT → Prop} {σ : bT} {id : Nat} {l : List Oper} (hm : E.P.follows .mixedOrders = true)
  (h : ∀ K : bT → List Rec → Prop,(∀ σ' recs,jH l recs = true → Q .normal σ' → K σ' recs) → fa E.P E.N tk l.toArray l σ [] K) : aw E (.region id l.toArray true) Q σ := fun a w G hs => by
 obtain ⟨recs,σ',h1,h2,h3,h4⟩ := kS (E := E) (K := fun σ' recs => jH l recs = true ∧ Q .normal σ') trivial (h _ fun σ' recs h1 h2 => ⟨h1,h2⟩)
 simp only [List.nil_append] at h1
 refine wp_region_any hm (sG (F := bP σ) (by simpa using h2) (by simpa using h1.1) (fun i h5 h6 => by simpa using h3 i (by simpa using h5) h6) (fun σ'' a' w' G' h5 h6 => ⟨σ',G',h1.2,h6.ext fun k => ?ext⟩) _ _ σ a _ G (by simp) ?cnt (fun j o e hj => ?cls) (fun k => ?prt) (t8 hs))
 case ext => rw [h4 k,h5 k]
 case cnt => exact Nat.le_trans (List.length_filter_le _ _) (by simp)
 case cls =>
  exfalso
  rw [Array.getD_eq_getD_getElem?,Array.getElem?_replicate] at hj
  split at hj <;> simp at hj
 case prt =>
  have : ∀ m,part (bP σ) recs (fun i => (Array.replicate l.toArray.size false).getD i false) m = bP σ := fun m => by
   induction m with
   | zero => rfl
   | succ m ih =>
    simp only [part]
    rw [if_neg,ih]
    rw [Array.getD_eq_getD_getElem?,Array.getElem?_replicate]
    split <;> simp
  rw [this]
end order
end
def cQ (b : Nat) : Nat → AV → Bool
 | 0,_ => true
 | _ + 1,.sl _ _ (.tok b') => b' == b
 | _ + 1,.loc b' _ => b' == b
 | _ + 1,.arr b' _ _ _ => b' == b
 | _ + 1,.mp b' => b' == b
 | n + 1,.agg cs => cs.any (cQ b n)
 | n + 1,.tup cs => cs.any (cQ b n)
 | n + 1,.ifc _ x => cQ b n x
 | n + 1,.fn _ p q => p.any (cQ b n) || q.any (cQ b n)
 | n + 1,.bc cs _ => cs.any (cQ b n)
 | n + 1,.br cs _ _ _ => cs.any (cQ b n)
 | _ + 1,.ow b' _ _ _ => b' == b
 | _ + 1,.lo b' _ _ => b' == b
 | n + 1,.fo rows => rows.any fun | .br cs _ _ _ => cs.any (cQ b n) | _ => false
 | _ + 1,.sl _ _ .none => false
 | _ + 1,.sl _ _ .full => false
 | _ + 1,.c _ => false
 | _ + 1,.u => false
 | _ + 1,.rf _ _ => false
 | _ + 1,.bt _ _ => false
def jG (b : Nat) : bT → Bool
 | [] => false
 | (k,v) :: r => (k != b && cQ b 5 v) || jG b r
def mrm (b : Nat) : bT → bT
 | [] => []
 | (k,v) :: r => if k = b then mrm b r else (k,v) :: mrm b r
theorem ma (b k : Nat) : ∀ σ : bT,bP (mrm b σ) k = if k = b then .u else bP σ k
 | [] => by simp [mrm,bP]
 | (i,v) :: r => by
  have ih := ma b k r
  unfold mrm
  by_cases e : i = b
  ·rw [if_pos e,ih]
   by_cases e2 : k = b
   ·rw [if_pos e2,if_pos e2]
   ·rw [if_neg e2,if_neg e2];simp only [bP];rw [if_neg (fun h : i = k => e2 (h ▸ e))]
  ·rw [if_neg e]
   simp only [bP]
   by_cases e2 : i = k
   ·rw [if_pos e2,if_pos e2,if_neg (fun h => e (e2.trans h))]
   ·rw [if_neg e2,ih,if_neg e2]
theorem gh {b : Nat} : ∀ {σ : bT},jG b σ = false → ∀ k,k ≠ b → cQ b 5 (bP σ k) = false
 | [],_,k,_ => rfl
 | (i,v) :: r,h,k,hk => by
  simp only [jG,Bool.or_eq_false_iff,Bool.and_eq_false_iff] at h
  simp only [bP]
  split
  ·rename_i e;subst e
   rcases h.1 with h1 | h1
   ·simp at h1;exact absurd h1 hk
   ·exact h1
  ·exact gh h.2 k hk
section gc
variable {E : Env}
theorem g5 {G : Gh} {B B' : Nat → AV} {b : Nat} (hB : ∀ k,10000 ≤ k → k ≠ b → B' k = B k) : ∀ (n : Nat) {x : AV} {v : Value},cQ b n x = false → VRel G B v x → VRel ⟨G.Z,fun k => if k = b then none else G.γ k,G.κ,G.β⟩ B' v x
 | 0,x,v,h,_ => by simp [cQ] at h
 | n + 1,x,v,h,hv => by
  have lst : ∀ {cs : List AV} {vs : Array Value},cs.any (cQ b n) = false → (∀ j (hj : j < cs.length),VRel G B (vs.getD j undef) cs[j]) → ∀ j (hj : j < cs.length),VRel ⟨G.Z,fun k => if k = b then none else G.γ k,G.κ,G.β⟩ B' (vs.getD j undef) cs[j] := fun {cs vs} hc hp j hj =>
   g5 hB n (by rw [List.any_eq_false] at hc;simpa using hc cs[j] (List.getElem_mem hj)) (hp j hj)
  cases x with
  | c x => rw [c5 hv];exact .p (.c x)
  | u => exact .p (.u v)
  | sl cs m o =>
   obtain ⟨ad,cap,b',off,f,rfl,hs,hf,ht⟩ := d7 hv
   cases o with
   | none => exact .p (.sl ad b' off m cap .none cs f (.inl rfl) hs.1 hs.2.1 hs.2.2.1 hs.2.2.2.1 hs.2.2.2.2)
   | full => exact .p (.sl ad b' off m cap .full cs f (.inr ⟨rfl,hf rfl⟩) hs.1 hs.2.1 hs.2.2.1 hs.2.2.2.1 hs.2.2.2.2)
   | tok t =>
    have hne : t ≠ b := by simpa [cQ] using h
    obtain ⟨h1,tip,e,h2,h3,h4⟩ := ht t rfl
    refine .tok ad m cap cs t tip e (.sl ad b' off m cap .none cs f (.inl rfl) hs.1 hs.2.1 hs.2.2.1 hs.2.2.2.1 hs.2.2.2.2) h1 ((hB t h1 hne).trans h2) h3 fun e' => ?_
    have := h4 e'
    unfold kR at *
    simp only [if_neg hne];exact this
  | rf cs o =>
   obtain ⟨b',off,f,rfl,hz,hp⟩ := fW hv
   exact .p (.rf b' off o cs f hz hp)
  | agg cs =>
   obtain ⟨vs,rfl,hs,h1,hp⟩ := eV hv
   exact .agg vs cs hs h1 (lst (by simpa [cQ] using h) hp)
  | tup cs =>
   obtain ⟨vs,rfl,hs,hp⟩ := ge hv
   exact .tup vs cs hs (lst (by simpa [cQ] using h) hp)
  | ifc t x =>
   obtain ⟨v',rfl,hx⟩ := dw hv
   exact .ifc t v' x (g5 hB n (by simpa [cQ] using h) hx)
  | fn f p q =>
   obtain ⟨va,vb,rfl,ha,hb,pa,pb⟩ := gH hv
   simp only [cQ,Bool.or_eq_false_iff] at h
   exact .fn f va vb p q ha hb (lst h.1 pa) (lst h.2 pb)
  | loc b' off =>
   have hne : b' ≠ b := by simpa [cQ] using h
   obtain ⟨g,cs,ty,rfl,hb',hB',hg,hm⟩ := eW hv
   exact .loc b' off g cs ty hb' ((hB b' hb' hne).trans hB') ((if_neg hne).trans hg) hm
  | arr b' off m e =>
   have hne : b' ≠ b := by simpa [cQ] using h
   obtain ⟨g,cap,cs,ty,rfl,hn,hb',hB',hg,hm⟩ := gd hv
   exact .arr b' off m e cap g cs ty hb' ((hB b' hb' hne).trans hB') ((if_neg hne).trans hg) hn hm
  | mp b' =>
   have hne : b' ≠ b := by simpa [cQ] using h
   obtain ⟨g,cs,ty,rfl,hb',hB',hg,hm⟩ := iZ hv
   exact .mp b' g cs ty hb' ((hB b' hb' hne).trans hB') ((if_neg hne).trans hg) hm
  | bc cs ty => exact (qF hv).elim
  | bt m e => exact (qH hv).elim
  | br cs v e sz => exact (qG hv).elim
  | fo rows => exact (qI hv).elim
  | ow b' off m ver =>
   have hne : b' ≠ b := by simpa [cQ] using h
   obtain ⟨ad,cap,cs,v',e,sz,rfl,hn,had,hb',hB',hvv,how⟩ := fV hv
   refine .ow ad m cap b' off ver cs v' e sz hb' ((hB b' hb' hne).trans hB') hn had hvv fun hv => ?_
   have := how hv
   unfold mA at *
   simp only [if_neg hne];exact this
  | lo b' off ver =>
   have hne : b' ≠ b := by simpa [cQ] using h
   obtain ⟨g,o,cs,v',e,sz,rfl,hb',hB',hvv,hk⟩ := ip hv
   exact .lo g o b' off ver cs v' e sz hb' ((hB b' hb' hne).trans hB') hvv fun hv => ⟨(if_neg hne).trans (hk hv).1,(hk hv).2⟩
theorem mO {b : Nat} {σ : bT} (h : jG b σ = false) (hb : iL (bP σ b) = false) {k : Nat} (hne : k ≠ b) {cs : List AV} : (∀ {ty},lm σ k = .bc cs ty → cs.any (cQ b 4) = false) ∧ ∀ {v e sz},lm σ k = .br cs v e sz → cs.any (cQ b 4) = false := by
 refine ⟨fun {ty} hc => ?_,fun {v e sz} hc => ?_⟩
 ·have h5 := gh h k hne
  rw [(fv hc).2] at h5
  simpa only [cQ] using h5
 ·by_cases hk : k < 1000000
  ·have h5 := gh h k hne
   have e1 : lm σ k = bP σ k := cE hk
   rw [e1] at hc
   rw [hc] at h5
   simpa only [cQ] using h5
  ·rcases qS (B := bP σ) hk with e1 | ⟨rows,cs',v',e',sz',h10,e1,e2,e3⟩
   ·have hc' : lk (bP σ) k = .br cs v e sz := hc
    rw [e1] at hc';cases hc'
   ·have hc' : lk (bP σ) k = .br cs v e sz := hc
    rw [e2] at hc';cases hc'
    have hne2 : dq k ≠ b := fun e4 => by rw [← e4,e1] at hb;cases hb
    have h5 := gh h (dq k) hne2
    rw [e1] at h5
    simp only [cQ] at h5
    rw [List.any_eq_false] at h5
    have := h5 _ (List.mem_of_getElem? e3)
    simpa using this
theorem ya {b : Nat} {σ : bT} (hb : 10000 ≤ b ∧ b < 20000) (hfo : iL (bP σ b) = false) (h : jG b σ = false) : ALe E σ (mrm b σ) := fun a w G hs => by
 have hlm : ∀ k,10000 ≤ k → lm (mrm b σ) k = if b = k then .u else lm σ k := fj (fun k _ _ => by
  rw [ma]
  by_cases e : k = b
  ·rw [if_pos e,if_pos e.symm]
  ·rw [if_neg e,if_neg (fun h => e h.symm)]) (by omega) hfo rfl
 have hB : ∀ k,10000 ≤ k → k ≠ b → lm (mrm b σ) k = lm σ k := fun k hk hne => by rw [hlm k hk,if_neg (fun h => hne h.symm)]
 have hr := fun k (hk : k ≠ b) {v} (hv : VRel G (lm σ) v (bP σ k)) => g5 (B' := lm (mrm b σ)) hB 5 (gh h k hk) hv
 refine ⟨⟨G.Z,fun k => if k = b then none else G.γ k,G.κ,G.β⟩,hs.defers,hs.tsize,fun t ht => ?_,⟨hs.st.agree,fun k g hk => ?_,fun k cs ty hk hc => ?_,fun k k' g h1 h2 => ?_,hs.st.gl⟩,hs.fr,⟨hs.step.1,fun k hk => ?_⟩,hs.zp⟩
 ·rw [ma,if_neg (by omega)];exact hr t (by omega) (hs.slots t ht)
 ·have hk' : (if k = b then none else G.γ k) = some g := hk
  split at hk'
  ·cases hk'
  ·rename_i hne
   obtain ⟨h1,h2,h3⟩ := hs.st.box k g hk'
   refine ⟨h1,h2,?_⟩
   rcases h3 with ⟨cs,ty,r1,⟨rm,c,r2,r3,r4,r5⟩ | rm⟩ | ⟨n,e,r1,c,r2,r3,r4,r5,r6⟩ | ⟨cs,v,e,sz,r1,c,r2,r3,r4,r5,r6,r7⟩
   ·refine .inl ⟨cs,ty,(hB k h1 hne).trans r1,.inl ⟨rm,c,r2,r3,r4,fun j hj => ⟨?_,(r5 j hj).2⟩⟩⟩
    have h5 := (mO h hfo hne).1 r1
    rw [List.any_eq_false] at h5
    exact g5 hB 4 (by simpa using h5 cs[j] (List.getElem_mem hj)) (r5 j hj).1
   ·exact .inl ⟨cs,ty,(hB k h1 hne).trans r1,.inr rm⟩
   ·exact .inr (.inl ⟨n,e,(hB k h1 hne).trans r1,c,r2,r3,r4,r5,r6⟩)
   ·refine .inr (.inr ⟨cs,v,e,sz,(hB k h1 hne).trans r1,c,r2,r3,r4,r5,r6,fun j hj => ⟨?_,(r7 j hj).2⟩⟩)
    have h5 := (mO h hfo hne).2 r1
    rw [List.any_eq_false] at h5
    exact g5 hB 4 (by simpa using h5 cs[j] (List.getElem_mem hj)) (r7 j hj).1
 ·have hne : k ≠ b := fun e => by rw [hlm k hk,if_pos e.symm] at hc;cases hc
  rw [hB k hk hne] at hc
  obtain ⟨g,hg⟩ := hs.st.real k cs ty hk hc
  exact ⟨g,(if_neg hne).trans hg⟩
 ·have e1 : (if k = b then none else G.γ k) = some g := h1
  have e2 : (if k' = b then none else G.γ k') = some g := h2
  split at e1
  ·cases e1
  ·split at e2
   ·cases e2
   ·exact hs.st.inj k k' g e1 e2
 ·by_cases hne : k = b
  ·subst hne
   exact .u (E.hB0.1 k hb.2)
  ·rw [hB k hk hne]
   have := hs.step.2 k hk
   unfold KStep at *
   simpa only [if_neg hne] using this
def mgc : List Nat → bT → bT
 | [],σ => σ
 | b :: r,σ => if 10000 ≤ b ∧ b < 20000 ∧ iL (bP σ b) = false ∧ jG b σ = false then mgc r (mrm b σ) else mgc r σ
theorem qo : ∀ (bs : List Nat) (σ : bT),ALe E σ (mgc bs σ)
 | [],σ => fun a w G hs => ⟨G,hs⟩
 | b :: r,σ => by
  unfold mgc
  split
  ·rename_i h
   intro a w G hs
   obtain ⟨G',hs'⟩ := ya ⟨h.1,h.2.1⟩ h.2.2.1 h.2.2.2 a w G hs
   exact qo r _ a w G' hs'
  ·exact qo r σ
def rU : bT → List Nat
 | [] => []
 | (k,_) :: r => if 10000 ≤ k ∧ k < 20000 then k :: rU r else rU r
def gn (L : List Nat) (σ : bT) : bT := mgc (rU (gp L σ)) (gp L σ)
theorem gP (L : List Nat) (σ : bT) : ALe E σ (gn L σ) := fun a w G hs => by
 obtain ⟨G',hs'⟩ := tL L σ a w G hs
 exact qo _ _ a w G' hs'
end gc
theorem gv {E : Env} {σ : bT} {b t n : Nat} {cs : List AV} (e : TypeId) (hb : 10000 ≤ b ∧ b < 20000) (ht : t < 10000) (hu : bP σ b = .u) (hv : bP σ t = .sl cs n .full) : ALe E σ (cX (cX σ b (.bt n e)) t (.sl cs n (.tok b))) := fun a w G hs => by
 have hm : ∀ k,bP (cX (cX σ b (.bt n e)) t (.sl cs n (.tok b))) k = if t = k then .sl cs n (.tok b) else if b = k then .bt n e else bP σ k := fun k => by rw [cj,cj]
 have hub : lm σ b = .u := (cE (by omega)).trans hu
 have hγ : G.γ b = none := by
  cases hg : G.γ b with
  | none => rfl
  | some g =>
   exact ((hs.st.box b g hg).2.2.not_u hub).elim
 have hlm : ∀ k,10000 ≤ k → lm (cX (cX σ b (.bt n e)) t (.sl cs n (.tok b))) k = if b = k then .bt n e else lm σ k := fj (fun k hk _ => by rw [hm,if_neg (by omega)]) (by omega) (by rw [hu];rfl) rfl
 have hst : BStep G (lm σ) G (lm (cX (cX σ b (.bt n e)) t (.sl cs n (.tok b)))) := ⟨.refl _,fun k hk => by
  rw [hlm k hk]
  by_cases h1 : b = k
  ·subst h1;exact .u hub
  ·rw [if_neg h1];exact .same rfl rfl rfl rfl⟩
 refine ⟨G,hs.defers,hs.tsize,fun k hk => ?_,⟨hs.st.agree,fun k g hk => ?_,fun k cs' ty hk hc => ?_,hs.st.inj,hs.st.gl⟩,hs.fr,hs.step.trans hst,hs.zp⟩
 ·rw [hm]
  by_cases h1 : t = k
  ·subst h1
   rw [if_pos rfl]
   have h2 := hs.slots t ht
   rw [hv] at h2
   obtain ⟨ad,cap,b',off,f,ev,⟨q1,q2,q3,q4,q5⟩,hf,_⟩ := d7 h2
   rw [ev]
   refine .tok ad n cap cs b n e (.sl ad b' off n cap .none cs f (.inl rfl) q1 q2 q3 q4 q5) hb.1 ((hlm b hb.1).trans (if_pos rfl)) (Nat.le_refl _) fun _ => ⟨fun _ => hf rfl,fun g hg => by rw [hγ] at hg;cases hg⟩
  ·rw [if_neg h1,if_neg (by omega)];exact (hs.slots k hk).step hst
 ·obtain ⟨h1,h2,h3⟩ := hs.st.box k g hk
  refine ⟨h1,h2,h3.step hst ?_ rfl rfl rfl fun _ => rfl⟩
  rw [hlm k h1,if_neg (fun h4 => by rw [← h4,hγ] at hk;cases hk)]
 ·rw [hlm k hk] at hc
  by_cases h1 : b = k
  ·rw [if_pos h1] at hc;cases hc
  ·rw [if_neg h1] at hc;exact hs.st.real k cs' ty hk hc
theorem x9 {E : Env} {σ : bT} {b : Nat} (hb : 10000 ≤ b ∧ b < 20000) (hu : bP σ b = .u) : ALe E σ (cX σ b (.fo [])) := fun a w G hs => by
 have hm : ∀ k,bP (cX σ b (.fo [])) k = if b = k then .fo [] else bP σ k := fun k => cj ..
 have hl : ∀ k,10000 ≤ k → lm (cX σ b (.fo [])) k = if b = k then .fo [] else lm σ k := fun k hk => by
  by_cases hk1 : k < 1000000
  ·show lk _ k = if b = k then .fo [] else lk _ k
   rw [cE hk1,cE hk1,hm]
  ·rw [if_neg (by omega)]
   show lk _ k = lk _ k
   unfold lk
   rw [if_neg hk1,if_neg hk1,hm]
   by_cases e : b = dq k
   ·rw [if_pos e,← e,hu];rfl
   ·rw [if_neg e]
 have hub : lm σ b = .u := (cE (by omega)).trans hu
 have hγ : G.γ b = none := by
  cases hg : G.γ b with
  | none => rfl
  | some g => exact ((hs.st.box b g hg).2.2.not_u hub).elim
 have hst : BStep G (lm σ) G (lm (cX σ b (.fo []))) := ⟨.refl _,fun k hk => by
  rw [hl k hk]
  by_cases h1 : b = k
  ·subst h1;exact .u hub
  ·rw [if_neg h1];exact .same rfl rfl rfl rfl⟩
 refine ⟨G,hs.defers,hs.tsize,fun k hk => ?_,⟨hs.st.agree,fun k g hk => ?_,fun k cs' ty hk hc => ?_,hs.st.inj,hs.st.gl⟩,hs.fr,hs.step.trans hst,hs.zp⟩
 ·rw [hm,if_neg (by omega)];exact (hs.slots k hk).step hst
 ·obtain ⟨h1,h2,h3⟩ := hs.st.box k g hk
  refine ⟨h1,h2,h3.step hst ?_ rfl rfl rfl fun _ => rfl⟩
  rw [hl k h1,if_neg (fun h4 => by rw [← h4,hγ] at hk;cases hk)]
 ·rw [hl k hk] at hc
  by_cases h1 : b = k
  ·rw [if_pos h1] at hc;cases hc
  ·rw [if_neg h1] at hc;exact hs.st.real k cs' ty hk hc
end Go.Proofs.YtmpdocplcgbpkaaGreatDoor

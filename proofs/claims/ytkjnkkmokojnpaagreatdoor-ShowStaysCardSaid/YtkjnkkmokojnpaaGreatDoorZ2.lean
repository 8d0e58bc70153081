/- K: calls, sound; and all operations together. No program is in sight. K: regions in the order of the text; code. No program is in sight. K: a function's contract out of its body. No program is in sight. K: regions that draw their order. One run in the order of the text serves every order, if what conflicts is ordered. No program is in sight. -/
import Derived.Test.YtkjnkkmokojnpaaGreatDoorZ1
import Derived.Orders
namespace Go.Proofs.YtkjnkkmokojnpaaGreatDoor
set_option linter.unusedSimpArgs false
set_option linter.unusedVariables false
open Go.RowKit
theorem kA : ∀ {l m : List Nat},m.Nodup→(un m l).Nodup
 | [],m,h=>h
 | x :: r,m,h=>by
  unfold un
  split
  ·exact kA h
  ·rename_i hx
   refine kA (List.nodup_append.2 ⟨h,by simp,fun a ha b hb=>?_⟩)
   simp at hb
   subst hb
   intro e;subst e
   exact hx (by simpa using ha)
section
variable {P : Program} {σ : bL} {Goal : List (Nat × AV)→Prop}
theorem Snd.rdBoxes : ∀ {ns : List Nat} {f : List AV→TR},((∀ b ∈ ns,10000≤b)→Snd P σ (f (ns.map (bj σ))) Goal)→Snd P σ (rdBoxes ns f) Goal
 | [],f,h=>h (fun b hb=>by simp at hb)
 | b :: r,f,h=>.need fun hb=>.rd (Snd.rdBoxes (ns:=r) fun hr=>h fun x hx=>by
   rcases List.mem_cons.1 hx with rfl | hx
   ·exact hb
   ·exact hr x hx)
theorem Snd.gather {tk : Bool} : ∀ {k : Nat} {ns : List Nat} {f : List Nat→List AV→TR},ns.Nodup→(∀ ns' : List Nat,ns'.Nodup→(∀ b ∈ ns',10000≤b)→Snd P σ (f ns' (ns'.map (bj σ))) Goal)→Snd P σ (gather tk k ns f) Goal
 | 0,_,_,_,_=>.fail
 | k + 1,ns,f,hn,h=>by
  refine .rdBoxes fun hb=>?_
  split
  ·exact h ns hn hb
  ·exact Snd.gather (kA hn) h
end
theorem jo : ∀ {ns : List Nat} {i b b' : Nat},fV (cC i ns) b = some b'→∃ j,j < ns.length∧b' = 20000 + i + j∧ns[j]? = some b
 | [],i,b,b',h=>by simp [cC,fV] at h
 | x :: r,i,b,b',h=>by
  simp only [cC,fV] at h
  split at h
  ·rename_i e;cases h;subst e;exact ⟨0,by simp,by omega,by simp⟩
  ·obtain ⟨j,h1,h2,h3⟩:=jo h
   exact ⟨j + 1,by simpa using h1,by omega,by simpa using h3⟩
theorem qP : ∀ {ns : List Nat} {i b b' : Nat},fV (fO (cC i ns)) b = some b'→∃ j,j < ns.length∧b = 20000 + i + j∧ns[j]? = some b'
 | [],i,b,b',h=>by simp [cC,fO,fV] at h
 | x :: r,i,b,b',h=>by
  simp only [cC,fO,List.map_cons,fV] at h
  split at h
  ·rename_i e;cases h;exact ⟨0,by simp,by omega,by simp⟩
  ·obtain ⟨j,h1,h2,h3⟩:=qP (ns:=r) (i:=i + 1) h
   exact ⟨j + 1,by simpa using h1,by omega,by simpa using h3⟩
theorem nZ {G G' : Gh} {B B' : Nat→AV} {g : List (Nat × Nat)} (hZ : G'.Z = G.Z)
  (hg : ∀ b b',fV g b = some b'→10000≤b'∧(∀ cs ty,B b = .bc cs ty→∃ cs',B' b' = .bc cs' ty)∧(∀ n e,B b = .bt n e→B' b' = .bt n e)∧G'.γ b' = G.γ b∧G'.κ b' = G.κ b) :
  ∀ (k : Nat) {x : AV} {v : Value},VRel G B v x→VRel G' B' v (ren g k x)
 | 0,x,v,_=>.p (.u v)
 | k + 1,x,v,h=>by
  have lst : ∀ {cs : List AV} {vs : Array Value},(∀ j (hj : j < cs.length),VRel G B (vs.getD j undef) cs[j])→∀ j (hj : j < (cs.map (ren g k)).length),VRel G' B' (vs.getD j undef) (cs.map (ren g k))[j]:=fun {cs vs} hp j hj=>by
   rw [List.getElem_map]
   exact nZ hZ hg k (hp j (by simpa using hj))
  cases x with
  | c x=>rw [ee h];exact .p (.c x)
  | u=>exact .p (.u v)
  | sl cs n o =>
   obtain ⟨ad,cap,b,off,f,rfl,⟨h1,h2,h3,h4,h5⟩,hf,ht⟩:=gD h
   cases o with
   | none=>exact .p (.sl ad b off n cap .none cs f (.inl rfl) h1 h2 h3 (by rw [hZ];exact h4) (by rw [hZ];exact h5))
   | full=>exact .p (.sl ad b off n cap .full cs f (.inr ⟨rfl,hf rfl⟩) h1 h2 h3 (by rw [hZ];exact h4) (by rw [hZ];exact h5))
   | tok t =>
    have hp : PRel G'.Z (.slice ad n cap) (.sl cs n .none):=.sl ad b off n cap .none cs f (.inl rfl) h1 h2 h3 (by rw [hZ];exact h4) (by rw [hZ];exact h5)
    obtain ⟨h6,tip,e,hB,hn,hk⟩:=ht t rfl
    simp only [ren]
    split
    ·rename_i b' hb'
     obtain ⟨q1,_,q3,q4,q5⟩:=hg t b' hb'
     refine .tok ad n cap cs b' tip e hp q1 (q3 tip e hB) hn fun e'=>?_
     have:=hk e'
     unfold oZ at *
     rw [q4,q5];exact this
    ·exact .p hp
  | rf cs o =>
   obtain ⟨b,off,f,rfl,hz,hp⟩:=kH h
   exact .p (.rf b off o cs f (by rw [hZ];exact hz) (by rw [hZ];exact hp))
  | agg cs =>
   obtain ⟨vs,rfl,hs,h1,hp⟩:=iI h
   exact .agg vs _ (by simpa using hs) (fun j hj=>h1 j (by simpa using hj)) (lst hp)
  | tup cs =>
   obtain ⟨vs,rfl,hs,hp⟩:=ji h
   exact .tup vs _ (by simpa using hs) (lst hp)
  | ifc t x =>
   obtain ⟨v',rfl,hv⟩:=gN h
   exact .ifc t v' _ (nZ hZ hg k hv)
  | fn f p q =>
   obtain ⟨va,vb,rfl,ha,hb,pa,pb⟩:=kG h
   exact .fn f va vb _ _ (by simpa using ha) (by simpa using hb) (lst pa) (lst pb)
  | loc b off =>
   obtain ⟨g',cs,ty,rfl,hb,hB,hγ,hm⟩:=iJ h
   simp only [ren]
   split
   ·rename_i b' hb'
    obtain ⟨q1,q2,_,q4,_⟩:=hg b b' hb'
    obtain ⟨cs',q2⟩:=q2 cs ty hB
    exact .loc b' off g' cs' ty q1 q2 (q4.trans hγ) hm
   ·exact .p (.u _)
  | arr b off n e =>
   obtain ⟨g',cap,cs,ty,rfl,hn,hb,hB,hγ,hm⟩:=jh h
   simp only [ren]
   split
   ·rename_i b' hb'
    obtain ⟨q1,q2,_,q4,_⟩:=hg b b' hb'
    obtain ⟨cs',q2⟩:=q2 cs ty hB
    exact .arr b' off n e cap g' cs' ty q1 q2 (q4.trans hγ) hn hm
   ·exact .p (.u _)
  | mp b =>
   obtain ⟨g',cs,ty,rfl,hb,hB,hγ,hm⟩:=mI h
   simp only [ren]
   split
   ·rename_i b' hb'
    obtain ⟨q1,q2,_,q4,_⟩:=hg b b' hb'
    obtain ⟨cs',q2⟩:=q2 cs ty hB
    exact .mp b' g' cs' ty q1 q2 (q4.trans hγ) hm
   ·exact .p (.u _)
  | bc cs ty=>exact (v6 h).elim
  | bt n e=>exact (v7 h).elim
theorem xr {G G' : Gh} {B B' : Nat→AV} {g : List (Nat × Nat)} (hZ : G'.Z = G.Z)
  (hg : ∀ b b',fV g b = some b'→10000≤b'∧(∀ cs ty,B b = .bc cs ty→∃ cs',B' b' = .bc cs' ty)∧(∀ n e,B b = .bt n e→B' b' = .bt n e)∧G'.γ b' = G.γ b∧G'.κ b' = G.κ b)
  {P : Program} {w : World} {k k' g' : Nat} (h : BoxAt P G B w k g') (hB : B' k' = gI g (B k)) (hκ : G'.κ k' = G.κ k) : BoxAt P G' B' w k' g':=by
 rcases h with ⟨cs,ty,e,h2⟩ | ⟨n,e,h1,c,h2,h3,h4,h5,h6⟩
 ·rw [e] at hB
  exact .inl ⟨_,ty,hB,h2.to (ren g 4) (fun _=>rfl) (fun _ _ h=>nZ hZ hg 4 h) rfl fun o ho=>by rw [hZ];exact ho⟩
 ·rw [h1] at hB
  rw [← hκ] at h3 h4 h5
  exact .inr ⟨n,e,hB,c,h2,h3,h4,h5,by rw [hZ];exact h6⟩
theorem sn {g : List (Nat × Nat)} : ∀ {ns : List Nat} {bs : List AV} {σ : bL},bs.length = ns.length→ns.Nodup→(∀ (j : Nat) (b : Nat) (x : AV),ns[j]? = some b→bs[j]? = some x→bj (dT σ (jb g ns bs)) b = gI g x)∧∀ k,k ∉ ns→bj (dT σ (jb g ns bs)) k = bj σ k
 | [],[],σ,_,_=>⟨fun j b x h=>by simp at h,fun k _=>rfl⟩
 | n :: ns,x :: bs,σ,hl,hn=>by
  obtain ⟨h1,h2⟩:=List.nodup_cons.1 hn
  obtain ⟨h3,h4⟩:=sn (g:=g) (ns:=ns) (bs:=bs) (σ:=gh σ n (gI g x)) (by simpa using hl) h2
  refine ⟨fun j b y hb hy=>?_,fun k hk=>?_⟩
  ·cases j with
   | zero =>
    simp at hb hy
    subst hb;subst hy
    show bj (dT (gh σ n (gI g x)) (jb g ns bs)) n = _
    rw [h4 n h1,eN,if_pos rfl]
   | succ j=>exact h3 j b y (by simpa using hb) (by simpa using hy)
  ·show bj (dT (gh σ n (gI g x)) (jb g ns bs)) k = _
   rw [h4 k (fun h=>hk (by simp [h])),eN,if_neg (fun e=>hk (by simp [e]))]
theorem pm (σ : bL) : ∀ (a b : List (Nat × AV)),dT σ (a ++ b) = dT (dT σ a) b
 | [],b=>rfl
 | (k,v) :: a,b=>pm (gh σ k v) a b
theorem oC {bs : List AV} {j : Nat} {x : AV} (h : bs[j]? = some x) : cY bs (20000 + j) = x:=by
 unfold cY
 rw [if_pos (by omega),Nat.add_sub_cancel_left,List.getD_eq_getElem?_getD,h];rfl
section
variable {E : Env} {o : Oper} {σ : bL} {a : Act} {w : World} {G : Gh}
def GhC (G : Gh) (ns : List Nat) : Gh:=⟨G.Z,fun k=>if 20000≤k then (ns[k - 20000]?).bind G.γ else none,fun k=>(ns[k - 20000]?).elim 0 G.κ⟩
def GhB (G G' : Gh) (ns : List Nat) : Gh:=⟨G'.Z,fun k=>if k ∈ ns then G'.γ (20000 + ns.idxOf k) else G.γ k,fun k=>if k ∈ ns then G'.κ (20000 + ns.idxOf k) else G.κ k⟩
theorem iz (G : Gh) {ns : List Nat} {j b : Nat} (h : ns[j]? = some b) : (GhC G ns).γ (20000 + j) = G.γ b∧(GhC G ns).κ (20000 + j) = G.κ b:=by
 unfold GhC
 simp [h]
theorem qH {ns : List Nat} (hn : ns.Nodup) {j b : Nat} (h : ns[j]? = some b) : ns.idxOf b = j:=by
 obtain ⟨h1,h2⟩:=List.getElem?_eq_some_iff.1 h
 subst h2
 exact hn.idxOf_getElem j h1
theorem ky (G G' : Gh) {ns : List Nat} (hn : ns.Nodup) {j b : Nat} (h : ns[j]? = some b) : (GhB G G' ns).γ b = G'.γ (20000 + j)∧(GhB G G' ns).κ b = G'.κ (20000 + j):=by
 have hm : b ∈ ns:=List.mem_of_getElem? h
 unfold GhB
 simp [hm,qH hn h]
theorem Aw (h : Sim E σ a w G) {f : FuncId} {tk : Bool} {args : List AV} {vs : Array Value} (hvs : vs.size = args.length) (hargs : ∀ j (hj : j < args.length),VRel G (bj σ) (vs.getD j undef) args[j])
  (hrun : aL E.P f = true→(execOp a.eval o).run E.P w = .ok (.enter f vs) w) : Snd E.P σ (w5 E.P E.N tk o f args) (gz E o σ a w):=by
 unfold w5
 refine .need fun ⟨hok,hd⟩=>.gather (kA (by simp)) fun ns hn hb=>.need fun hbox=>.call fun r bs' hfn=>?_
 have hext : ∀ j b,ns[j]? = some b→cY ((ns.map (bj σ)).map (gI (cC 0 ns))) (20000 + j) = gI (cC 0 ns) (bj σ b):=fun j b hj=>oC (by simp [hj])
 have hg : ∀ b b',fV (cC 0 ns) b = some b'→10000≤b'∧(∀ cs ty,bj σ b = .bc cs ty→∃ cs',cY ((ns.map (bj σ)).map (gI (cC 0 ns))) b' = .bc cs' ty) ∧
   (∀ n e,bj σ b = .bt n e→cY ((ns.map (bj σ)).map (gI (cC 0 ns))) b' = .bt n e)∧(GhC G ns).γ b' = G.γ b∧(GhC G ns).κ b' = G.κ b:=fun b b' hl=>by
  obtain ⟨j,h1,h2,h3⟩:=jo hl
  rw [Nat.add_zero] at h2
  subst h2
  rw [hext j b h3]
  exact ⟨by omega,fun cs ty e=>⟨_,by rw [e];rfl⟩,fun n e he=>by rw [he];rfl,iz G h3⟩
 have hγc : ∀ k g,(GhC G ns).γ k = some g→∃ j b,k = 20000 + j∧ns[j]? = some b∧G.γ b = some g:=fun k g hk=>by
  have hk' : (if 20000≤k then (ns[k - 20000]?).bind G.γ else none) = some g:=hk
  split at hk'
  ·rename_i h1
   obtain ⟨b,h2,h3⟩:=Option.bind_eq_some_iff.1 hk'
   exact ⟨k - 20000,b,by omega,h2,h3⟩
  ·cases hk'
 have hst : BSim E.P (fun b=>b < w.heap.size∧∀ k,(GhC G ns).γ k ≠ some b) (GhC G ns) (cY ((ns.map (bj σ)).map (gI (cC 0 ns)))) w:=by
  refine ⟨h.st.agree,fun k g hk=>?_,fun k cs ty hk hB=>?_,fun k k' g h1 h2=>?_,h.st.gl⟩
  ·obtain ⟨j,b,rfl,h2,h3⟩:=hγc k g hk
   obtain ⟨_,_,h4⟩:=h.st.box b g h3
   exact ⟨by omega,fun hp=>hp.2 _ hk,xr (G:=G) (G':=GhC G ns) rfl hg h4 (hext j b h2) (iz G h2).2⟩
  ·unfold cY at hB
   split at hB
   ·rename_i hk'
    rw [List.getD_eq_getElem?_getD] at hB
    cases hj : ns[k - 20000]? with
    | none=>simp [hj] at hB
    | some b =>
     simp only [List.getElem?_map,hj,Option.map_some,Option.getD_some] at hB
     have : ∃ cs',bj σ b = .bc cs' ty:=by
      cases hm : bj σ b <;> rw [hm] at hB <;> simp [gI] at hB
      rename_i cs' ty'
      exact ⟨cs',by rw [hB.2]⟩
     obtain ⟨cs',hm⟩:=this
     obtain ⟨g,hγ⟩:=h.st.real b cs' ty (hb b (List.mem_of_getElem? hj)) hm
     refine ⟨g,?_⟩
     have:=(iz G hj).1
     rw [show 20000 + (k - 20000) = k by omega] at this
     exact this.trans hγ
   ·cases hB
  ·obtain ⟨j,b,rfl,h3,h4⟩:=hγc k g h1
   obtain ⟨j',b',rfl,h5,h6⟩:=hγc k' g h2
   have:=h.st.inj b b' g h4 h6
   subst this
   rw [← qH hn h3,← qH hn h5]
 have hargs' : ∀ j (hj : j < (args.map (ren (cC 0 ns) 4)).length),VRel (GhC G ns) (cY ((ns.map (bj σ)).map (gI (cC 0 ns)))) (vs.getD j undef) (args.map (ren (cC 0 ns) 4))[j]:=fun j hj=>by
  rw [List.getElem_map]
  exact nZ (G:=G) (G':=GhC G ns) rfl hg 4 (hargs j (by simpa using hj))
 have hX : XP w (fun b=>b < w.heap.size∧∀ k,(GhC G ns).γ k ≠ some b):=fun g cs hg=>by
  obtain ⟨⟨ty,fl,h1⟩,h2⟩:=E.hB0.2 g cs hg
  exact ⟨⟨ty,fl,(h.fr.block g h2).2.trans h1⟩,Nat.lt_of_lt_of_le (h.fr.block g h2).1 h.fr.size,fun k hk=>by
   obtain ⟨j,b',_,_,h4⟩:=hγc k g hk
   exact (h.st.box b' g h4).2.1 h2⟩
 have hcalls:=hfn w (GhC G ns) vs hst hX (by simpa using hvs) hargs'
 have back : ∀ ns2 : List Nat,(ns2 = ns∨∃ key,ns2 = ns ++ [key]∧10000≤key∧bj σ key = .u∧key ∉ ns)→bs'.length = ns2.length→Snd E.P σ (wZ o ns2 r bs') (gz E o σ a w):=fun ns2 hns2 hlen'=>by
  refine .done fun Q=>?_
  have hn2 : ns2.Nodup:=by
   rcases hns2 with rfl | ⟨key,rfl,_,_,hk⟩
   ·exact hn
   ·exact List.nodup_append.2 ⟨hn,by simp,fun x hx y hy=>by simp at hy;subst hy;intro e;exact hk (e ▸ hx)⟩
  have hb2' : ∀ b ∈ ns2,10000≤b:=fun b hbm=>by
   rcases hns2 with rfl | ⟨key,rfl,hk,_,_⟩
   ·exact hb b hbm
   ·rcases List.mem_append.1 hbm with hbm | hbm
    ·exact hb b hbm
    ·simp at hbm;omega
  have hsub : ∀ b,b ∈ ns→b ∈ ns2:=fun b hbm=>by
   rcases hns2 with rfl | ⟨key,rfl,_,_,_⟩
   ·exact hbm
   ·exact List.mem_append_left _ hbm
  have hold : ∀ j b,ns2[j]? = some b→ns[j]? = some b∨bj σ b = .u:=fun j b hj=>by
   rcases hns2 with rfl | ⟨key,rfl,_,hu,_⟩
   ·exact .inl hj
   ·by_cases hlt : j < ns.length
    ·rw [List.getElem?_append_left hlt] at hj;exact .inl hj
    ·rw [List.getElem?_append_right (by omega)] at hj
     cases h0 : j - ns.length with
     | zero=>rw [h0] at hj;simp at hj;subst hj;exact .inr hu
     | succ i=>rw [h0] at hj;simp at hj
  unfold Oper.wp
  rw [hrun hok]
  refine Calls.mono hcalls ?_
  rintro e w' ⟨v,G',rfl,hv,hst',hw,hs',hz'⟩
  have hgb : ∀ b b',fV (fO (cC 0 ns2)) b = some b'→∃ j,b = 20000 + j∧ns2[j]? = some b':=fun b b' hl=>by
   obtain ⟨j,h1,h2,h3⟩:=qP hl
   exact ⟨j,by omega,h3⟩
  have hσ : ∀ k,bj (dT σ (jb (fO (cC 0 ns2)) ns2 bs' ++ fB o (ren (fO (cC 0 ns2)) 4 r))) k = if some k = o.dst then ren (fO (cC 0 ns2)) 4 r else bj (dT σ (jb (fO (cC 0 ns2)) ns2 bs')) k:=fun k=>by
   rw [pm,iD]
  obtain ⟨hb1,hb2⟩:=sn (g:=fO (cC 0 ns2)) (ns:=ns2) (bs:=bs') (σ:=σ) hlen' hn2
  have hσb : ∀ k,10000≤k→bj (dT σ (jb (fO (cC 0 ns2)) ns2 bs' ++ fB o (ren (fO (cC 0 ns2)) 4 r))) k = bj (dT σ (jb (fO (cC 0 ns2)) ns2 bs')) k:=fun k hk=>by
   rw [hσ,if_neg (fun e=>by have h2 : k < 10000:=(kD hd k e.symm).2;omega)]
  have hat : ∀ j b,ns2[j]? = some b→bj (dT σ (jb (fO (cC 0 ns2)) ns2 bs' ++ fB o (ren (fO (cC 0 ns2)) 4 r))) b = gI (fO (cC 0 ns2)) (cY bs' (20000 + j)):=fun j b hj=>by
   rw [hσb b (hb2' b (List.mem_of_getElem? hj))]
   obtain ⟨h1,_⟩:=List.getElem?_eq_some_iff.1 hj
   have h2 : bs'[j]? = some bs'[j]:=List.getElem?_eq_getElem (by omega)
   rw [hb1 j b _ hj h2,oC h2]
  have hnot : ∀ k,10000≤k→k ∉ ns2→bj (dT σ (jb (fO (cC 0 ns2)) ns2 bs' ++ fB o (ren (fO (cC 0 ns2)) 4 r))) k = bj σ k:=fun k hk hk'=>by
   rw [hσb k hk,hb2 k hk']
  have hgb' : ∀ b b',fV (fO (cC 0 ns2)) b = some b'→10000≤b'∧(∀ cs ty,cY bs' b = .bc cs ty→∃ cs',bj (dT σ (jb (fO (cC 0 ns2)) ns2 bs' ++ fB o (ren (fO (cC 0 ns2)) 4 r))) b' = .bc cs' ty) ∧
    (∀ n e,cY bs' b = .bt n e→bj (dT σ (jb (fO (cC 0 ns2)) ns2 bs' ++ fB o (ren (fO (cC 0 ns2)) 4 r))) b' = .bt n e)∧(GhB G G' ns2).γ b' = G'.γ b∧(GhB G G' ns2).κ b' = G'.κ b:=fun b b' hl=>by
   obtain ⟨j,rfl,h3⟩:=hgb b b' hl
   rw [hat j b' h3]
   exact ⟨hb2' b' (List.mem_of_getElem? h3),fun cs ty e=>⟨_,by rw [e];rfl⟩,fun n e he=>by rw [he];rfl,ky G G' hn2 h3⟩
  have hprc : ∀ b,E.Pr b→b < w.heap.size∧∀ k,(GhC G ns).γ k ≠ some b:=fun b hp=>by
   refine ⟨Nat.lt_of_lt_of_le (h.fr.block b hp).1 h.fr.size,fun k hk=>?_⟩
   obtain ⟨j,b',_,_,h4⟩:=hγc k b hk
   exact (h.st.box b' b h4).2.1 hp
  have hfar : ∀ k g,k ∉ ns2→G.γ k = some g→g < w.heap.size∧∀ i,(GhC G ns).γ i ≠ some g:=fun k g hk hγ=>by
   refine ⟨iZ h hγ,fun i hi=>?_⟩
   obtain ⟨j,b',_,h3,h4⟩:=hγc i g hi
   have:=h.st.inj k b' g hγ h4
   subst this
   exact hk (hsub _ (List.mem_of_getElem? h3))
  have hmem : ∀ k,k ∈ ns2→∃ j,ns2[j]? = some k:=fun k hk=>by
   obtain ⟨j,h1,h2⟩:=List.getElem_of_mem hk
   exact ⟨j,by rw [List.getElem?_eq_getElem h1,h2]⟩
  have hγB : ∀ k,k ∉ ns2→(GhB G G' ns2).γ k = G.γ k∧(GhB G G' ns2).κ k = G.κ k:=fun k hk=>⟨if_neg hk,if_neg hk⟩
  have hs : BStep G (bj σ) (GhB G G' ns2) (bj (dT σ (jb (fO (cC 0 ns2)) ns2 bs' ++ fB o (ren (fO (cC 0 ns2)) 4 r)))):=⟨hs'.1,fun k hk=>by
   by_cases hkn : k ∈ ns2
   ·obtain ⟨j,hj⟩:=hmem k hkn
    obtain ⟨s1,s2⟩:=hs'.2 (20000 + j) (by omega)
    rcases hold j k hj with hj0 | hj0
    rotate_left
    ·rw [hj0];exact ⟨(fun _ _ hc=>by cases hc),(fun _ _ hc=>by cases hc)⟩
    rw [hext j k hj0] at s1 s2
    rw [hat j k hj,(ky G G' hn2 hj).1,(ky G G' hn2 hj).2]
    rw [(iz G hj0).1,(iz G hj0).2] at s2
    rw [(iz G hj0).1] at s1
    refine ⟨fun cs ty e=>?_,fun n e he=>?_⟩
    ·rw [e] at s1
     obtain ⟨⟨cs',h1⟩,h2⟩:=s1 _ ty rfl
     exact ⟨⟨_,by rw [h1];rfl⟩,h2⟩
    ·rw [he] at s2
     obtain ⟨n',h1,h2⟩:=s2 n e rfl
     exact ⟨n',by rw [h1];rfl,h2⟩
   ·rw [hnot k hk hkn,(hγB k hkn).1,(hγB k hkn).2]
    exact ⟨fun cs ty hc=>⟨⟨cs,hc⟩,rfl⟩,fun n e hc=>⟨n,hc,.inr ⟨rfl,rfl,rfl⟩⟩⟩⟩
  refine ⟨GhB G G' ns2,h.put (x:=ren (fO (cC 0 ns2)) 4 r) (kD hd) hs ⟨hst'.agree,fun k g hk=>?_,fun k cs ty hk hB=>?_,fun k k' g h1 h2=>?_,hst'.gl⟩ ⟨hw.os,hw.tape,hw.output,hw.size,fun b hp hlt=>hw.block b (hprc b hp) hlt⟩
   (fun b o' hp=>hz' b o' (hprc b hp).1 (hprc b hp).2) (nZ (G:=G') (G':=GhB G G' ns2) rfl hgb' 4 hv) fun t ht=>?_⟩
  ·by_cases hkn : k ∈ ns2
   ·obtain ⟨j,hj⟩:=hmem k hkn
    rw [(ky G G' hn2 hj).1] at hk
    obtain ⟨_,h2,h3⟩:=hst'.box _ g hk
    exact ⟨hb2' k hkn,fun hp=>h2 (hprc g hp),xr (G:=G') (G':=GhB G G' ns2) rfl hgb' h3 (hat j k hj) (ky G G' hn2 hj).2⟩
   ·rw [(hγB k hkn).1] at hk
    obtain ⟨h1,h2,h3⟩:=h.st.box k g hk
    obtain ⟨h4,h5⟩:=hfar k g hkn hk
    exact ⟨h1,h2,h3.step hs (hnot k h1 hkn) (hγB k hkn).2 (hw.block g ⟨h4,h5⟩ h4) fun o'=>hz' g o' h4 h5⟩
  ·by_cases hkn : k ∈ ns2
   ·obtain ⟨j,hj⟩:=hmem k hkn
    rw [hat j k hj] at hB
    have : ∃ cs',cY bs' (20000 + j) = .bc cs' ty:=by
     cases hm : cY bs' (20000 + j) <;> rw [hm] at hB <;> simp [gI] at hB
     rename_i cs' ty'
     exact ⟨cs',by rw [hB.2]⟩
    obtain ⟨cs',hm⟩:=this
    obtain ⟨g,hγ⟩:=hst'.real _ cs' ty (by omega) hm
    exact ⟨g,(ky G G' hn2 hj).1.trans hγ⟩
   ·rw [hnot k hk hkn] at hB
    obtain ⟨g,hγ⟩:=h.st.real k cs ty hk hB
    exact ⟨g,(hγB k hkn).1.trans hγ⟩
  ·have mixed : ∀ k k' g,k ∈ ns2→k' ∉ ns2→(GhB G G' ns2).γ k = some g→(GhB G G' ns2).γ k' = some g→False:=fun k k' g hkn hkn' h1 h2=>by
    obtain ⟨j,hj⟩:=hmem k hkn
    rw [(ky G G' hn2 hj).1] at h1
    rw [(hγB k' hkn').1] at h2
    exact (hst'.box _ g h1).2.1 (hfar k' g hkn' h2)
   by_cases hkn : k ∈ ns2 <;> by_cases hkn' : k' ∈ ns2
   ·obtain ⟨j,hj⟩:=hmem k hkn
    obtain ⟨j',hj'⟩:=hmem k' hkn'
    rw [(ky G G' hn2 hj).1] at h1
    rw [(ky G G' hn2 hj').1] at h2
    have:=hst'.inj _ _ g h1 h2
    have e : j = j':=by omega
    subst e
    rw [hj] at hj';cases hj';rfl
   ·exact (mixed k k' g hkn hkn' h1 h2).elim
   ·exact (mixed k' k g hkn' hkn h2 h1).elim
   ·rw [(hγB k hkn).1] at h1
    rw [(hγB k' hkn').1] at h2
    exact h.st.inj k k' g h1 h2
  ·rw [hσ]
   split
   ·rfl
   ·rw [hb2 t (fun hm=>by have:=hb2' t hm;omega)]
 split
 ·rename_i hlen;exact back ns (.inl rfl) hlen
 ·unfold Ef
  split
  ·rename_i d hdst
   refine .rd ?_
   split
   ·rename_i hu
    refine .need fun ⟨h1,h2⟩=>back _ (.inr ⟨10000 + d,rfl,by omega,hu,by simpa using h1⟩) (by simpa using h2)
   ·exact .fail
  ·exact .fail
theorem yd {P : Program} {w : World} {f : FuncId} {vs : Array Value} (h : aL P f = true) : (callFunc f vs).run P w = .ok (.enter f vs) w:=by
 unfold aL at h
 split at h
 ·rename_i fn hf
  simp only [Bool.and_eq_true,Bool.not_eq_true',beq_eq_false_iff_ne,ne_eq] at h
  obtain ⟨h1,h2⟩:=h
  obtain ⟨c,hc⟩:=Option.isSome_iff_exists.1 h1
  simp [callFunc,hf,h2,hc]
 ·cases h
theorem FL {G : Gh} {B : Nat→AV} {va vb : Array Value} {p q : List AV} (ha : va.size = p.length) (pa : ∀ j (h : j < p.length),VRel G B (va.getD j undef) p[j]) (pb : ∀ j (h : j < q.length),VRel G B (vb.getD j undef) q[j]) :
  ∀ j (h : j < (p ++ q).length),VRel G B ((va ++ vb).getD j undef) (p ++ q)[j]:=fun j hj=>by
 by_cases hlt : j < p.length
 ·have:=pa j hlt
  rw [List.getElem_append_left hlt]
  simpa [Array.getD_eq_getD_getElem?,Array.getElem?_append_left (show j < va.size by omega)] using this
 ·have hj' : j - p.length < q.length:=by simp at hj;omega
  have:=pb (j - p.length) hj'
  rw [List.getElem_append_right (by omega)]
  simpa [Array.getD_eq_getD_getElem?,Array.getElem?_append_right (show va.size≤j by omega),ha] using this
theorem xA {G : Gh} {B : Nat→AV} : ∀ {l : List AV} {xs vs : List Value},xs.length = l.length→(∀ j (h : j < l.length),VRel G B (xs.getD j undef) l[j])→l.mapM lq = some vs→xs = vs
 | [],xs,vs,hl,_,hm=>by
  simp at hm;subst hm
  simpa using hl
 | x :: l,xs,vs,hl,hr,hm=>by
  cases xs with
  | nil=>simp at hl
  | cons y xs =>
   simp only [List.mapM_cons,Option.bind_eq_bind,Option.bind_eq_some_iff,Option.pure_def,Option.some.injEq] at hm
   obtain ⟨u,hu,us,hus,rfl⟩:=hm
   have h0:=pJ (hr 0 (by simp)) hu
   simp at h0
   subst h0
   rw [xA (l:=l) (xs:=xs) (by simpa using hl) (fun j hj=>hr (j + 1) (Nat.succ_lt_succ hj)) hus]
theorem yv (h : Sim E σ a w G) {tk : FuncId→Bool} {f : Operand} {args : Array Operand} {ts : Array TypeId} (ho : o.op = .call { callee:=.value f,args:=args,argTypes:=ts }) :
  Snd E.P σ (rdo f fun v=>rdos args.toList fun vs=>tD E.P E.N tk o v vs) (gz E o σ a w) :=
 .rdo h fun v hv=>.rdos h fun ys hl hys=>by
  unfold tD
  split
  ·rename_i fid p q
   obtain ⟨va,vb,ev,ha,hb,pa,pb⟩:=kG hv
   have hl' : ys.length = args.size:=by simpa using hl
   have hrel:=FL (G:=G) (B:=bj σ) (va:=va ++ args.map a.eval) (vb:=vb) (p:=p ++ ys) (q:=q) (by simp [ha,hl']) (FL ha pa fun j hj=>by
    have hj' : j < args.size:=by omega
    have:=hys j (by simpa using hj') hj
    simpa [Array.getD_eq_getD_getElem?,hj'] using this) pb
   unfold v8
   split
   ·refine Aw h (vs:=va ++ args.map a.eval ++ vb) (by simp [ha,hb,hl']) hrel fun hok=>?_
    have:=yd (w:=w) (vs:=va ++ args.map a.eval ++ vb) hok
    simp only [execOp,ho,Sem.run_bind,resolve,ev,Deferred.ofValue,Sem.run_pure,Result.andThen_ok,invoke,this]
   ·unfold Ed
    split
    ·rename_i vs hvs
     have e1:=xA (xs:=(va ++ args.map a.eval ++ vb).toList) (by simp [ha,hb,hl']) (fun j hj=>by
      have:=hrel j hj
      generalize va ++ args.map a.eval ++ vb = A at this ⊢
      have e : A.toList.getD j undef = A.getD j undef:=by simp [Array.getD_eq_getD_getElem?]
      rw [e];exact this) hvs
     have e2 : va ++ args.map a.eval ++ vb = vs.toArray:=by rw [← e1]
     refine .ex fun r hr=>cZ h ?_ (.p (.c r))
     have:=hr w
     rw [← e2] at this
     simp only [execOp,ho,Sem.run_bind,resolve,ev,Deferred.ofValue,Sem.run_pure,Result.andThen_ok,invoke,this]
    ·exact .fail
  ·exact .fail
theorem lV (h : Sim E σ a w G) (tk : FuncId→Bool) (o : Oper) : Snd E.P σ (aop E.P E.N tk o) (gz E o σ a w):=by
 unfold aop
 split
 next ho=>exact vj h (.inl ho)
 next ho=>exact vj h (.inr ho)
 next ho=>exact Az h ho
 next ho=>exact yt h ho
 next ho=>exact Cu h ho
 next ho=>exact Ay h ho
 next ho=>exact yA h ho
 next ho=>exact Cw h ho
 next ho=>exact sd h ho
 next ho=>exact yw h ho
 next ho=>exact se h ho
 next ho=>exact yy h ho
 next ho=>exact Ct h ho
 next ho=>exact Er h ho
 next ho=>exact vf h ho
 next ho=>exact yx h ho
 next ho=>exact vg h ho
 next ho=>exact yu h ho
 next ho=>exact rr h ho
 next ho=>exact sf h ho
 next ho=>exact yz h ho
 next ho=>exact vi h ho
 next ho=>exact ww h ho
 next ho=>exact rt h (.inl ho)
 next ho=>exact rt h (.inr ho)
 next ho=>exact t6 h ho
 next ho =>
  split
  next h1 h2=>exact Cv (ty:=0) h h1 h2 ho
  next=>exact .fail
 next ho =>
  split
  next h1 h2=>exact wv (ty:=0) h h1 h2 ho
  next=>exact .fail
 next ho=>exact yv h ho
 next=>exact .fail
end
end Go.Proofs.YtkjnkkmokojnpaaGreatDoor
namespace Go.Proofs.YtkjnkkmokojnpaaGreatDoor
set_option linter.unusedSimpArgs false
set_option linter.unusedVariables false
open Go.RowKit
def no (ops : Array Oper) (g : Nat) : Option Nat:=(ops[g]?).bind (·.dst)
theorem zD {b want : Bool} {A B : Prop} (h : if b = want then A else B) : (b = want→A)∧(b = !want→B):=by
 by_cases e : b = want
 ·rw [if_pos e] at h;exact ⟨fun _=>h,fun e'=>by cases want <;> simp_all⟩
 ·rw [if_neg e] at h;exact ⟨fun e'=>absurd e' e,fun _=>h⟩
def jQ (P : Program) (N : Nat) (tk : FuncId→Bool) (ops : Array Oper) : List Oper→bL→(bL→Prop)→Prop
 | [],σ,K=>K σ
 | o :: r,σ,K=>match o.guard with
  | none=>(aop P N tk o).wp P σ fun _ d=>jQ P N tk ops r (dT σ d) K
  | some (g,want)=>match no ops g with
   | some t=>t < 10000∧match bj σ t with
    | .c (.bool b)=>if b = want then (aop P N tk o).wp P (gh σ t (.c (.bool want))) fun _ d=>jQ P N tk ops r (dT (gh σ t (.c (.bool want))) d) K
      else fh N o∧jQ P N tk ops r (dT (gh σ t (.c (.bool (!want)))) (fB o (.c undef))) K
    | .c (.tuple _)=>fh N o∧jQ P N tk ops r (dT σ (fB o (.c undef))) K
    | _=>False
   | none=>False
section
variable {E : Env} {σ : bL} {a : Act} {w : World} {G : Gh}
theorem Sim.same (h : Sim E σ a w G) {t : Nat} {v : AV} (ht : t < 10000) (hv : bj σ t = v) : Sim E (gh σ t v) a w G:=by
 have hm : ∀ k,bj (gh σ t v) k = bj σ k:=fun k=>by
  rw [eN];split
  ·rename_i e;rw [← hv,e]
  ·rfl
 have hs : BStep G (bj σ) G (bj (gh σ t v)):=.congr fun k _=>hm k
 exact ⟨h.defers,h.tsize,fun k hk=>by rw [hm];exact (h.slots k hk).step hs,h.st.congr fun k _=>hm k,h.fr,h.step.trans hs,h.zp⟩
theorem nf (h : Sim E σ a w G) {ops : Array Oper} {g t : Nat} {b : Bool} (hd : no ops g = some t) (ht : t < 10000) (hv : bj σ t = .c (.bool b)) : yielded ops a.tmps g = some b:=by
 have h1:=h.slots t ht
 rw [hv] at h1
 have h2:=ee h1
 unfold no at hd
 unfold yielded
 rw [hd]
 simp only [Option.bind_some]
 rw [Array.getD_eq_getD_getElem?] at h2
 cases h3 : a.tmps[t]? with
 | none=>rw [h3] at h2;simp [undef] at h2
 | some x=>rw [h3] at h2;simp at h2;rw [h2]
theorem px (h : Sim E σ a w G) {ops : Array Oper} {g t : Nat} {vs : Array Value} (hd : no ops g = some t) (ht : t < 10000) (hv : bj σ t = .c (.tuple vs)) : yielded ops a.tmps g = none:=by
 have h1:=h.slots t ht
 rw [hv] at h1
 have h2:=ee h1
 unfold no at hd
 unfold yielded
 rw [hd]
 simp only [Option.bind_some]
 rw [Array.getD_eq_getD_getElem?] at h2
 cases h3 : a.tmps[t]? with
 | none=>rfl
 | some x=>rw [h3] at h2;simp at h2;rw [h2]
theorem l7 (h : Sim E σ a w G) {o : Oper} (hd : fh E.N o) : Sim E (dT σ (fB o (.c undef))) (a.put o.dst undef) w G :=
 h.put (x:=.c undef) (kD hd) (.congr (io hd _)) (h.st.congr (io hd _)) (.refl _ _) (fun _ _ _=>rfl) (.p (.c _)) fun t _=>iD t
theorem jr {tk : FuncId→Bool} {ops : Array Oper} {K : bL→Prop} {Q : Exit→Act→World→Prop} (hQ : ∀ σ' a' w' G',K σ'→Sim E σ' a' w' G'→Q .normal a' w') :
  ∀ {l : List Oper} {σ : bL} {a : Act} {w : World} {G : Gh},jQ E.P E.N tk ops l σ K→Sim E σ a w G→wpList E.P ops Q l a w
 | [],σ,a,w,G,h,hs=>hQ _ _ _ _ h hs
 | o :: r,σ,a,w,G,h,hs=>by
  unfold jQ at h
  split at h
  ·rename_i hg
   obtain ⟨R,d,hK,hgood⟩:=lV hs tk o _ h
   refine wpList_plain hg fun K' hK'=>Oper.wp_mono (fun a' w' ⟨G',hG'⟩=>hK' a' w' (jr hQ hK hG')) (hgood Q)
  ·rename_i g want hg
   split at h
   ·rename_i t ht
    obtain ⟨ht',h⟩:=h
    split at h
    ·rename_i b hb
     have h:=zD h
     have hy:=nf hs ht ht' hb
     by_cases hbw : b = want
     ·subst hbw
      have hs':=hs.same ht' hb
      obtain ⟨R,d,hK,hgood⟩:=lV hs' tk o _ (h.1 rfl)
      refine wpList_step fun K' hK'=>?_
      rw [if_pos (by simp [Region.wanted,hg,hy])]
      exact Oper.wp_mono (fun a' w' ⟨G',hG'⟩=>hK' a' w' (jr hQ hK hG')) (hgood Q)
     ·have hbn : b = !want:=by cases b <;> cases want <;> simp_all
      obtain ⟨hd,h2⟩:=h.2 hbn
      have hs':=hs.same ht' (hbn ▸ hb)
      refine wpList_step fun K' hK'=>?_
      rw [if_neg (by simp [Region.wanted,hg,hy,hbw])]
      exact hK' _ _ (jr hQ h2 (l7 hs' hd))
    ·rename_i vs hb
     have hy:=px hs ht ht' hb
     refine wpList_step fun K' hK'=>?_
     rw [if_neg (by simp [Region.wanted,hg,hy])]
     exact hK' _ _ (jr hQ h.2 (l7 hs h.1))
    ·exact h.elim
   ·exact h.elim
end
def aw (E : Env) (c : Code) (Q : Exit→bL→Prop) (σ : bL) : Prop :=
 ∀ a w G,Sim E σ a w G→c.wp E.P (fun e a' w'=>∃ σ' G',Q e σ'∧Sim E σ' a' w' G') a w
def pq (K : bL→Prop) (Q : Exit→bL→Prop) : Exit→bL→Prop
 | .normal,σ=>K σ
 | e,σ=>Q e σ
def mB (id : Nat) (Q : Exit→bL→Prop) : Exit→bL→Prop
 | .exit i,σ=>if i = id then Q .normal σ else Q (.exit i) σ
 | e,σ=>Q e σ
def DR (P : Program) (c : Code) (Q : Exit→Act→World→Prop) (a : Act) (w : World) : Prop :=
 ∀ (b : Frame) (k : List Item) (cs : List Frame),∃ e a' w',Q e a' w'∧Arrives P (lone (b.at a (.code c :: .inLoop c :: k)) cs w) b k cs e a' w'
def awl (E : Env) (c : Code) (Q : Exit→bL→Prop) (σ : bL) : Prop :=
 ∀ a w G,Sim E σ a w G→DR E.P c (fun e a' w'=>∃ σ' G',Q e σ'∧Sim E σ' a' w' G') a w
section
variable {E : Env} {Q : Exit→bL→Prop} {σ : bL}
theorem am {x y : Code} (h : aw E x (pq (aw E y Q) Q) σ) : aw E (.seq x y) Q σ:=fun a w G hs=>by
 refine wp_seq (Code.wp_mono (fun e a' w' ⟨σ',G',h1,h2⟩=>?_) (h a w G hs))
 cases e with
 | normal=>exact h1 a' w' G' h2
 | _=>exact ⟨σ',G',h1,h2⟩
theorem ap {id : Nat} {c : Code} (h : aw E c (mB id Q) σ) : aw E (.block id c) Q σ:=fun a w G hs=>by
 refine wp_block (Code.wp_mono (fun e a' w' ⟨σ',G',h1,h2⟩=>?_) (h a w G hs))
 cases e with
 | exit i =>
  simp only [mB] at h1
  simp only [Exit.inBlock]
  split
  ·rename_i e;rw [if_pos e] at h1;exact ⟨σ',G',h1,h2⟩
  ·rename_i e;rw [if_neg e] at h1;exact ⟨σ',G',h1,h2⟩
 | _=>exact ⟨σ',G',h1,h2⟩
theorem aD (h : Q .normal σ) : aw E .skip Q σ:=fun a w G hs=>wp_skip ⟨σ,G,h,hs⟩
theorem aA (h : Q .ret σ) : aw E .ret Q σ:=fun a w G hs=>wp_ret ⟨σ,G,h,hs⟩
theorem bH {id : Nat} (h : Q (.exit id) σ) : aw E (.exit id) Q σ:=fun a w G hs=>wp_exit ⟨σ,G,h,hs⟩
theorem Bd {t : Nat} {b : Bool} {x y : Code} (ht : t < 10000) (hb : bj σ t = .c (.bool b)) (h1 : b = true→aw E x Q σ) (h2 : b = false→aw E y Q σ) : aw E (.cond (.tmp t) x y) Q σ:=fun a w G hs=>by
 have h3:=hs.slots t ht
 rw [hb] at h3
 exact wp_cond_split (ee h3) (fun e=>h1 e a w G hs) (fun e=>h2 e a w G hs)
theorem xK (tk : FuncId→Bool) {id : Nat} {l : List Oper} (h : ∀ K : bL→Prop,(∀ σ',Q .normal σ'→K σ')→jQ E.P E.N tk l.toArray l σ K) : aw E (.region id l.toArray false) Q σ:=fun a w G hs =>
 wp_region_lit (jr (fun σ' a' w' G' h1 h2=>⟨σ',G',h1,h2⟩) (h _ fun _ h=>h) hs)
theorem bW {c : Code} (h : awl E c Q σ) : aw E (.loop c) Q σ:=fun a w G hs b k cs=>by
 obtain ⟨e,a',w',hq,harr⟩:=h a w G hs b k cs
 exact ⟨e,a',w',hq,.of_steps (.one step_loop) harr⟩
theorem xL {c : Code} (h : aw E c (pq (awl E c Q) Q) σ) : awl E c Q σ:=fun a w G hs b k cs=>by
 obtain ⟨e,a₁,w₁,⟨σ',G',hq,hs'⟩,harr⟩:=h a w G hs b (.inLoop c :: k) cs
 cases e with
 | normal =>
  obtain ⟨e₂,a₂,w₂,hq₂,harr₂⟩:=hq a₁ w₁ G' hs' b k cs
  exact ⟨e₂,a₂,w₂,hq₂,.of_steps (Steps.trans harr (.one step_inLoop)) harr₂⟩
 | _=>exact ⟨_,a₁,w₁,⟨σ',G',hq,hs'⟩,.pass (x:=.inLoop c) rfl (fun _ _=>.inl (by simp)) harr⟩
def ALe (E : Env) (σ σ' : bL) : Prop:=∀ a w G,Sim E σ a w G→∃ G',Sim E σ' a w G'
theorem wG {σ' : bL} {c : Code} (hl : ALe E σ σ') (h : aw E c Q σ') : aw E c Q σ:=fun a w G hs=>by
 obtain ⟨G',hs'⟩:=hl a w G hs
 exact h a w G' hs'
theorem jS {σ' : bL} {c : Code} (hl : ALe E σ σ') (h : awl E c Q σ') : awl E c Q σ:=fun a w G hs=>by
 obtain ⟨G',hs'⟩:=hl a w G hs
 exact h a w G' hs'
def jK (L : List Nat) : bL→bL
 | []=>[]
 | (k,v) :: r=>if k < 10000∧L.contains k = false then jK L r else (k,v) :: jK L r
theorem jx (L : List Nat) (k : Nat) : ∀ σ : bL,bj (jK L σ) k = bj σ k∨(bj (jK L σ) k = .u∧k < 10000)
 | []=>.inl rfl
 | (i,v) :: r=>by
  unfold jK
  split
  ·rename_i hc
   by_cases e : i = k
   ·subst e
    rcases jx L i r with h | h
    ·have : bj (jK L r) i = .u:=mkeep_none L i hc r
     exact .inr ⟨this,hc.1⟩
    ·exact .inr h
   ·rcases jx L k r with h | h
    ·left;simp only [bj,if_neg e];exact h
    ·exact .inr h
  ·simp only [bj]
   split
   ·exact .inl rfl
   ·exact jx L k r
where
 mkeep_none (L : List Nat) (i : Nat) (hc : i < 10000∧L.contains i = false) : ∀ r : bL,bj (jK L r) i = .u
  | []=>rfl
  | (j,v) :: r=>by
   unfold jK
   split
   ·exact mkeep_none L i hc r
   ·rename_i h
    simp only [bj]
    rw [if_neg (fun e : j = i=>h (e ▸ hc))]
    exact mkeep_none L i hc r
theorem yK (L : List Nat) (σ : bL) : ALe E σ (jK L σ):=fun a w G hs=>by
 have hb : ∀ k,10000≤k→bj (jK L σ) k = bj σ k:=fun k hk=>(jx L k σ).resolve_right fun h=>by omega
 have hst : BStep G (bj σ) G (bj (jK L σ)):=.congr hb
 refine ⟨G,hs.defers,hs.tsize,fun t ht=>?_,hs.st.congr hb,hs.fr,hs.step.trans hst,hs.zp⟩
 rcases jx L t σ with h | ⟨h,_⟩
 ·rw [h];exact (hs.slots t ht).step hst
 ·rw [h];exact .p (.u _)
end
end Go.Proofs.YtkjnkkmokojnpaaGreatDoor
namespace Go.Proofs.YtkjnkkmokojnpaaGreatDoor
set_option linter.unusedSimpArgs false
set_option linter.unusedVariables false
open Go.RowKit
def ip (ex : List Nat) (σ : bL) : Nat→AV→AV
 | 0,_=>.u
 | _ + 1,.c x=>.c x
 | _ + 1,.u=>.u
 | _ + 1,.sl cs n (.tok _)=>.sl cs n .none
 | _ + 1,.sl cs n .none=>.sl cs n .none
 | _ + 1,.sl cs n .full=>.sl cs n .full
 | _ + 1,.rf cs o=>.rf cs o
 | k + 1,.agg cs=>.agg (cs.map (ip ex σ k))
 | k + 1,.tup cs=>.tup (cs.map (ip ex σ k))
 | k + 1,.ifc t x=>.ifc t (ip ex σ k x)
 | k + 1,.fn f a b=>.fn f (a.map (ip ex σ k)) (b.map (ip ex σ k))
 | k + 1,.loc b off=>if ex.contains b = true then .u else match bj σ b with | .bc cs _=>.rf (cs.map (ip ex σ k)) off | _=>.u
 | k + 1,.arr b off n _=>if ex.contains b = true then .u else match bj σ b with | .bc cs _=>.sl ((cs.drop off).map (ip ex σ k)) n .none | _=>.u
 | _ + 1,.bc _ _=>.u
 | _ + 1,.bt _ _=>.u
 | _ + 1,.mp _=>.u
def i8 (ex : List Nat) (σ : bL) : Nat→AV→AV
 | 0,_=>.u
 | _ + 1,.sl cs n (.tok b)=>match fV (cC 0 ex) b with | some b'=>.sl cs n (.tok b') | none=>.sl cs n .none
 | k + 1,.loc b off=>match fV (cC 0 ex) b with | some b'=>.loc b' off | none=>ip ex σ (k + 1) (.loc b off)
 | k + 1,.arr b off n e=>match fV (cC 0 ex) b with | some b'=>.arr b' off n e | none=>ip ex σ (k + 1) (.arr b off n e)
 | _ + 1,.mp b=>match fV (cC 0 ex) b with | some b'=>.mp b' | none=>.u
 | k + 1,.agg cs=>.agg (cs.map (i8 ex σ k))
 | k + 1,.tup cs=>.tup (cs.map (i8 ex σ k))
 | k + 1,.ifc t x=>.ifc t (i8 ex σ k x)
 | k + 1,.fn f a b=>.fn f (a.map (i8 ex σ k)) (b.map (i8 ex σ k))
 | _ + 1,.c x=>.c x
 | _ + 1,.u=>.u
 | _ + 1,.sl cs n .none=>.sl cs n .none
 | _ + 1,.sl cs n .full=>.sl cs n .full
 | _ + 1,.rf cs o=>.rf cs o
 | _ + 1,.bc _ _=>.u
 | _ + 1,.bt _ _=>.u
def oA (ex : List Nat) (σ : bL) : AV→AV
 | .bc cs ty=>.bc (cs.map (i8 ex σ 4)) ty
 | x=>x
noncomputable def gi (ex : List Nat) (G : Gh) (σ : bL) (w : World) : jf:=by
 classical exact fun b o=>match G.Z b o with
  | some v=>some v
  | none=>if ∃ k cs ty,k ∉ ex∧G.γ k = some b∧bj σ k = .bc cs ty∧o < cs.length then w.cell? ⟨b,o,none⟩ else none
section
variable {E : Env} {σ : bL} {a : Act} {w : World} {G : Gh}
theorem kX (ex : List Nat) (G : Gh) (σ : bL) (w : World) : SealLe G.Z (gi ex G σ w):=fun b o v h=>by
 unfold gi;rw [h]
theorem wn {ex : List Nat} {k g o : Nat} {cs : List AV} {ty : TypeId} {v : Value} (hz : G.Z g o = none) (hk : k ∉ ex) (hg : G.γ k = some g) (hB : bj σ k = .bc cs ty) (ho : o < cs.length) (hv : w.cell? ⟨g,o,none⟩ = some v) : gi ex G σ w g o = some v:=by
 unfold gi;rw [hz]
 simp only
 rw [if_pos ⟨k,cs,ty,hk,hg,hB,ho⟩];exact hv
theorem wo {ex : List Nat} {b o : Nat} {v : Value} (h : gi ex G σ w b o = some v) : G.Z b o = some v∨(w.cell? ⟨b,o,none⟩ = some v∧∃ k cs ty,k ∉ ex∧G.γ k = some b∧bj σ k = .bc cs ty∧o < cs.length):=by
 unfold gi at h
 split at h
 ·rename_i u hu;cases h;exact .inl hu
 ·split at h
  ·rename_i hc;exact .inr ⟨h,hc⟩
  ·cases h
theorem kY {ex : List Nat} {b o : Nat} (hz : G.Z b o = none) (h : ∀ k cs ty,k ∉ ex→G.γ k = some b→bj σ k = .bc cs ty→False) : gi ex G σ w b o = none:=by
 unfold gi;rw [hz]
 simp only
 rw [if_neg]
 rintro ⟨k,cs,ty,h1,h2,h3,_⟩
 exact h k cs ty h1 h2 h3
theorem sD {ex : List Nat} (h : Sim E σ a w G) {b g : Nat} {cs : List AV} {ty : TypeId} (hb : 10000≤b) (hlt : b ∉ ex) (hB : bj σ b = .bc cs ty) (hg : G.γ b = some g) (hm : isM ty = false) :
  ∃ f : Nat→Value,(∀ j,j < cs.length→gi ex G σ w g j = some (f j))∧∀ j (hj : j < cs.length),VRel G (bj σ) (f j) cs[j]:=by
 obtain ⟨c,hc,hr,hz,_,hfc⟩:=iB h hb hB hg hm
 refine ⟨fun j=>c.getD j undef,fun j hj=>?_,fun j hj=>(iL hr hj).1⟩
 refine wn (hz j) hlt hg hB hj ?_
 have : j < c.size:=Nat.lt_of_lt_of_le hj hfc
 rw [cell_of_row _ g j c ty _ hc]
 simp [this]
theorem jp {ex : List Nat} (h : Sim E σ a w G) : ∀ (k : Nat) {x : AV} {v : Value},VRel G (bj σ) v x→PRel (gi ex G σ w) v (ip ex σ k x)
 | 0,x,v,_=>.u v
 | k + 1,x,v,hv=>by
  have lst : ∀ {cs : List AV} {vs : Array Value},(∀ j (hj : j < cs.length),VRel G (bj σ) (vs.getD j undef) cs[j])→∀ j (hj : j < (cs.map (ip ex σ k)).length),PRel (gi ex G σ w) (vs.getD j undef) (cs.map (ip ex σ k))[j]:=fun {cs vs} hp j hj=>by
   rw [List.getElem_map]
   exact jp h k (hp j (by simpa using hj))
  have hle:=kX ex G σ w
  cases x with
  | c x=>rw [ee hv];exact .c x
  | u=>exact .u v
  | sl cs n o =>
   obtain ⟨ad,cap,b,off,f,rfl,⟨h1,h2,h3,h4,h5⟩,hf,ht⟩:=gD hv
   have hp : PRel (gi ex G σ w) (.slice ad n cap) (.sl cs n .none):=.sl ad b off n cap .none cs f (.inl rfl) h1 h2 h3 (fun j hj=>hle _ _ _ (h4 j hj)) fun j hj=>(h5 j hj).mono hle
   cases o with
   | none=>exact hp
   | full=>exact .sl ad b off n cap .full cs f (.inr ⟨rfl,hf rfl⟩) h1 h2 h3 (fun j hj=>hle _ _ _ (h4 j hj)) fun j hj=>(h5 j hj).mono hle
   | tok t=>exact hp
  | rf cs o =>
   obtain ⟨b,off,f,rfl,hz,hp⟩:=kH hv
   exact .rf b off o cs f (fun j hj=>hle _ _ _ (hz j hj)) fun j hj=>(hp j hj).mono hle
  | agg cs =>
   obtain ⟨vs,rfl,hs,h1,hp⟩:=iI hv
   exact .agg vs _ (by simpa using hs) (fun j hj=>h1 j (by simpa using hj)) (lst hp)
  | tup cs =>
   obtain ⟨vs,rfl,hs,hp⟩:=ji hv
   exact .tup vs _ (by simpa using hs) (lst hp)
  | ifc t x =>
   obtain ⟨v',rfl,hx⟩:=gN hv
   exact .ifc t v' _ (jp h k hx)
  | fn f p q =>
   obtain ⟨va,vb,rfl,ha,hb,pa,pb⟩:=kG hv
   exact .fn f va vb _ _ (by simpa using ha) (by simpa using hb) (lst pa) (lst pb)
  | loc b off =>
   obtain ⟨g,cs,ty,rfl,hb,hB,hg,hm⟩:=iJ hv
   simp only [ip]
   split
   ·exact .u _
   ·rename_i hlt
    rw [hB]
    obtain ⟨f,h1,h2⟩:=sD (ex:=ex) h hb (by simpa using hlt) hB hg hm
    have:=PRel.rf (Z:=gi ex G σ w) g 0 off (cs.map (ip ex σ k)) f (fun j hj=>by rw [Nat.zero_add];exact h1 j (by simpa using hj)) (fun j hj=>by rw [List.getElem_map];exact jp h k (h2 j (by simpa using hj)))
    rwa [Nat.zero_add] at this
  | arr b off n e =>
   obtain ⟨g,cap,cs,ty,rfl,hn,hb,hB,hg,hm⟩:=jh hv
   simp only [ip]
   split
   ·exact .u _
   ·rename_i hlt
    rw [hB]
    obtain ⟨f,h1,h2⟩:=sD (ex:=ex) h hb (by simpa using hlt) hB hg hm
    refine .sl _ g off n cap .none _ (fun j=>f (off + j)) (.inl rfl) hn (fun e=>by cases e) (.inr rfl) (fun j hj=>h1 _ (by simp at hj;omega)) fun j hj=>?_
    rw [List.getElem_map,List.getElem_drop]
    exact jp h k (h2 _ (by simp at hj;omega))
  | bc cs ty=>exact .u _
  | bt n e=>exact .u _
  | mp b=>exact .u _
noncomputable def GhX (ex : List Nat) (G : Gh) (σ : bL) (w : World) : Gh:=⟨gi ex G σ w,(GhC G ex).γ,(GhC G ex).κ⟩
theorem nq {ex : List Nat} (h : Sim E σ a w G) {B' : Nat→AV} (hbc : ∀ j b cs ty,ex[j]? = some b→bj σ b = .bc cs ty→∃ cs',B' (20000 + j) = .bc cs' ty) (hbt : ∀ j b n e,ex[j]? = some b→bj σ b = .bt n e→B' (20000 + j) = .bt n e) :
  ∀ (k : Nat) {x : AV} {v : Value},VRel G (bj σ) v x→VRel (GhX ex G σ w) B' v (i8 ex σ k x)
 | 0,x,v,_=>.p (.u v)
 | k + 1,x,v,hv=>by
  have lst : ∀ {cs : List AV} {vs : Array Value},(∀ j (hj : j < cs.length),VRel G (bj σ) (vs.getD j undef) cs[j])→∀ j (hj : j < (cs.map (i8 ex σ k)).length),VRel (GhX ex G σ w) B' (vs.getD j undef) (cs.map (i8 ex σ k))[j]:=fun {cs vs} hp j hj=>by
   rw [List.getElem_map]
   exact nq h hbc hbt k (hp j (by simpa using hj))
  have pu : i8 ex σ (k + 1) x = ip ex σ (k + 1) x→VRel (GhX ex G σ w) B' v (i8 ex σ (k + 1) x):=fun e=>by rw [e];exact .p (jp h (k + 1) hv)
  cases x with
  | c x=>exact pu rfl
  | u=>exact pu rfl
  | sl cs n o =>
   cases o with
   | none=>exact pu rfl
   | full=>exact pu rfl
   | tok t =>
    cases hlk : fV (cC 0 ex) t with
    | some b' =>
     simp only [i8,hlk]
     obtain ⟨j,q1,q2,q3⟩:=jo hlk
     rw [Nat.add_zero] at q2
     subst q2
     have hp:=jp (ex:=ex) h (k + 1) hv
     obtain ⟨ad,cap,b,off,f,rfl,_,_,ht⟩:=gD hv
     obtain ⟨h1,tip,e,hB,hn,hk⟩:=ht t rfl
     refine .tok ad n cap cs (20000 + j) tip e hp (by omega) (hbt j t tip e q3 hB) hn fun e'=>?_
     have:=hk e'
     unfold oZ at *
     have hc:=iz G q3
     show ((GhC G ex).γ (20000 + j) = none→cap = n)∧∀ g,(GhC G ex).γ (20000 + j) = some g→ad = some ⟨g,0,none⟩∧cap = (GhC G ex).κ (20000 + j)
     rw [hc.1,hc.2];exact this
    | none =>
     refine pu ?_
     simp only [i8,ip,hlk]
  | rf cs o=>exact pu rfl
  | agg cs =>
   obtain ⟨vs,rfl,hs,h1,hp⟩:=iI hv
   exact .agg vs _ (by simpa using hs) (fun j hj=>h1 j (by simpa using hj)) (lst hp)
  | tup cs =>
   obtain ⟨vs,rfl,hs,hp⟩:=ji hv
   exact .tup vs _ (by simpa using hs) (lst hp)
  | ifc t x =>
   obtain ⟨v',rfl,hx⟩:=gN hv
   exact .ifc t v' _ (nq h hbc hbt k hx)
  | fn f p q =>
   obtain ⟨va,vb,rfl,ha,hb,pa,pb⟩:=kG hv
   exact .fn f va vb _ _ (by simpa using ha) (by simpa using hb) (lst pa) (lst pb)
  | loc b off =>
   cases hlk : fV (cC 0 ex) b with
   | some b' =>
    simp only [i8,hlk]
    obtain ⟨j,q1,q2,q3⟩:=jo hlk
    rw [Nat.add_zero] at q2
    subst q2
    obtain ⟨g,cs,ty,rfl,hb,hB,hg,hm⟩:=iJ hv
    obtain ⟨cs',hB'⟩:=hbc j b cs ty q3 hB
    exact .loc (20000 + j) off g cs' ty (by omega) hB' ((iz G q3).1.trans hg) hm
   | none =>
    refine pu ?_
    show (match fV (cC 0 ex) b with | some b'=>_ | none=>_) = _
    rw [hlk]
  | arr b off n e =>
   cases hlk : fV (cC 0 ex) b with
   | some b' =>
    simp only [i8,hlk]
    obtain ⟨j,q1,q2,q3⟩:=jo hlk
    rw [Nat.add_zero] at q2
    subst q2
    obtain ⟨g,cap,cs,ty,rfl,hn,hb,hB,hg,hm⟩:=jh hv
    obtain ⟨cs',hB'⟩:=hbc j b cs ty q3 hB
    exact .arr (20000 + j) off n e cap g cs' ty (by omega) hB' ((iz G q3).1.trans hg) hn hm
   | none =>
    refine pu ?_
    show (match fV (cC 0 ex) b with | some b'=>_ | none=>_) = _
    rw [hlk]
  | bc cs ty=>exact pu rfl
  | bt n e=>exact pu rfl
  | mp b =>
   cases hlk : fV (cC 0 ex) b with
   | some b' =>
    simp only [i8,hlk]
    obtain ⟨j,q1,q2,q3⟩:=jo hlk
    rw [Nat.add_zero] at q2
    subst q2
    obtain ⟨g,cs,ty,rfl,hb,hB,hg,hm⟩:=mI hv
    obtain ⟨cs',hB'⟩:=hbc j b cs ty q3 hB
    exact .mp (20000 + j) g cs' ty (by omega) hB' ((iz G q3).1.trans hg) hm
   | none =>
    simp only [i8,hlk]
    exact .p (.u _)
def yb (P : Program) : List ResultVar→(List AV→TR)→TR
 | [],f=>f []
 | .tmp t :: r,f=>rdo (.tmp t) fun v=>yb P r fun vs=>f (v :: vs)
 | .cell b t :: r,f=>rdo (.tmp b) fun a=>qM P t a fun v=>yb P r fun vs=>f (v :: vs)
def mT (tmps : Array Value) (x : ResultVar) : Sem Value:=match x with
 | .tmp t=>pure (tmps.getD t undef)
 | .cell a t=>do loadVar t (← asAddr (tmps.getD a undef))
theorem ua (h : Sim E σ a w G) {Goal : List (Nat × AV)→Prop} : ∀ {rs : List ResultVar} {f : List AV→TR},
  (∀ (vs : List Value) (ys : List AV),(rs.mapM (mT a.tmps)).run E.P w = .ok vs w→vs.length = ys.length→(∀ j (hj : j < ys.length),VRel G (bj σ) (vs.getD j undef) ys[j])→Snd E.P σ (f ys) Goal)→Snd E.P σ (yb E.P rs f) Goal
 | [],f,hf=>hf [] [] (by simp) rfl fun j hj=>by simp at hj
 | .tmp t :: r,f,hf=>Snd.rdo h fun v hv=>ua h fun vs ys h1 h2 h3=>hf (a.tmps.getD t undef :: vs) (v :: ys) (by simp [List.mapM_cons,mT,h1]) (by simp [h2]) fun j hj=>by
   cases j with
   | zero=>exact hv
   | succ j=>exact h3 j (by simpa using hj)
 | .cell b t :: r,f,hf=>Snd.rdo h fun p hp=>sN h hp fun v x hr hx=>ua h fun vs ys h1 h2 h3=>hf (v :: vs) (x :: ys) (by
   have e : (mT a.tmps (.cell b t)).run E.P w = .ok v w:=by
    simp only [mT,Sem.run_bind]
    have hr' : (Instr.loadAt t (a.tmps.getD b undef)).run E.P w = .ok v w:=hr
    cases hp' : a.tmps.getD b undef with
    | pointer q =>
     cases q with
     | none=>rw [hp'] at hr';simp [Instr.loadAt,Instr.sureAddr,stuck] at hr'
     | some q=>rw [hp'] at hr';simpa [asAddr,Instr.loadAt,Instr.sureAddr] using hr'
    | _=>rw [hp'] at hr';simp [Instr.loadAt,Instr.sureAddr,stuck] at hr'
   simp [List.mapM_cons,e,h1]) (by simp [h2]) fun j hj=>by
   cases j with
   | zero=>exact hx
   | succ j=>exact h3 j (by simpa using hj)
def yG : List AV→AV
 | [v]=>v
 | vs=>.tup vs
def gX (nb : Nat) (nw : List Nat) : List Nat:=(List.range nb).map (20000 + ·) ++ nw
def Bu (nb : Nat) (nw : List Nat) : Bool:=nw.all fun b=>decide (10000≤b∧b < 20000)
def mM : List Nat→Bool
 | []=>true
 | x :: r=>!r.contains x && mM r
def fin (P : Program) (fn : Func) (nb : Nat) (nw : List Nat) (r : AV) (bxs : List AV) (σ : bL) : Prop :=
 (yb P fn.results.toList fun vs=>.need (mM nw = true∧Bu nb nw = true∧i8 (gX nb nw) σ 8 (yG vs) = r∧(gX nb nw).map (fun b=>oA (gX nb nw) σ (bj σ b)) = bxs) (.done [])).wp P σ fun _ _=>True
def AZ (P : Program) (fn : Func) (nb : Nat) (nw : List Nat) (r : AV) (bxs : List AV) : Exit→bL→Prop
 | .normal,σ=>fin P fn nb nw r bxs σ
 | .ret,σ=>fin P fn nb nw r bxs σ
 | _,_=>False
theorem qU : ∀ {l : List Nat},mM l = true→l.Nodup
 | [],_=>by simp
 | x :: r,h=>by
  simp only [mM,Bool.and_eq_true,Bool.not_eq_true'] at h
  exact List.nodup_cons.2 ⟨by simpa using h.1,qU h.2⟩
def aB (i : Nat) : List AV→bL
 | []=>[]
 | x :: r=>(i,x) :: aB (i + 1) r
theorem lJ : ∀ (l : List AV) (i k : Nat) (r : bL),bj (aB i l ++ r) k = if i≤k∧k < i + l.length then l.getD (k - i) .u else bj r k
 | [],i,k,r=>by
  rw [if_neg (fun h=>by have:=h.1;have:=h.2;simp at this;omega)];rfl
 | x :: l,i,k,r=>by
  show bj ((i,x) :: (aB (i + 1) l ++ r)) k = _
  simp only [bj]
  split
  ·rename_i e;subst e;rw [if_pos (by simp)];simp
  ·rename_i e
   rw [lJ l (i + 1) k r]
   by_cases hk : i + 1≤k∧k < i + 1 + l.length
   ·rw [if_pos hk,if_pos (by simp;omega)]
    have : k - i = (k - (i + 1)) + 1:=by omega
    rw [this];rfl
   ·rw [if_neg hk,if_neg (by simp;omega)]
def aJ (args bxs : List AV) : bL:=aB 0 args ++ aB 20000 bxs
theorem aC {P : Program} {f : FuncId} {fn : Func} {c : Code} {args bxs bxs' : List AV} {r : AV} {N : Nat} (nw : List Nat) (hf : P.funcs[f]? = some fn) (hb : fn.body = some c) (hN : fn.ntmps = N) (ha : args.length≤N) (ha2 : args.length≤10000)
  (h : ∀ w0 G0 B0 Pr hB0,aw ⟨P,N,w0,G0,B0,Pr,hB0⟩ c (AZ P fn bxs.length nw r bxs') (aJ args bxs)) : AFn P f args bxs r bxs':=by
 subst hN
 intro w G vs hst hX hvs hargs
 have hget : ∀ k,bj (aJ args bxs) k = if k < args.length then args.getD k .u else cY bxs k:=fun k=>by
  unfold aJ
  rw [lJ]
  simp only [Nat.zero_le,true_and,Nat.zero_add,Nat.sub_zero]
  split
  ·rfl
  ·have:=lJ bxs 20000 k []
   rw [List.append_nil] at this
   rw [this]
   unfold cY
   by_cases h1 : 20000≤k
   ·rw [if_pos h1]
    by_cases h2 : k < 20000 + bxs.length
    ·rw [if_pos ⟨h1,h2⟩]
    ·rw [if_neg (by omega),List.getD_eq_getElem?_getD,List.getElem?_eq_none (by omega)];rfl
   ·rw [if_neg (by omega),if_neg h1];rfl
 have hbox : ∀ k,10000≤k→bj (aJ args bxs) k = cY bxs k:=fun k hk=>by
  rw [hget,if_neg (by omega)]
 have hB0 : ∀ k,k < 20000→cY bxs k = .u:=fun k hk=>if_neg (by omega)
 let E : Env:=⟨P,fn.ntmps,w,G,cY bxs,fun b=>b < w.heap.size∧∀ k,G.γ k ≠ some b,⟨hB0,hX⟩⟩
 have hs0 : BStep G (cY bxs) G (bj (aJ args bxs)):=.congr hbox
 have hsim : Sim E (aJ args bxs) { tmps:=vs ++ Array.replicate (fn.ntmps - vs.size) undef,defers:=[] } w G:=by
  refine ⟨rfl,by simp [E];omega,fun t ht=>?_,hst.congr hbox,⟨rfl,rfl,rfl,Nat.le_refl _,fun b hb=>⟨hb.1,rfl⟩⟩,hs0,fun _ _ _=>rfl⟩
  rw [hget]
  by_cases hlt : t < args.length
  ·rw [if_pos hlt]
   have:=(hargs t hlt).step hs0
   rw [List.getD_eq_getElem?_getD,List.getElem?_eq_getElem hlt]
   have e : (vs ++ Array.replicate (fn.ntmps - vs.size) undef).getD t undef = vs.getD t undef:=by
    simp [Array.getD_eq_getD_getElem?,Array.getElem?_append_left (show t < vs.size by omega)]
   rw [e];exact this
  ·rw [if_neg hlt]
   unfold cY
   rw [if_neg (by omega)];exact .p (.u _)
 have hwp:=h w G (cY bxs) (fun b=>b < w.heap.size∧∀ k,G.γ k ≠ some b) ⟨hB0,hX⟩ _ w G hsim
 refine calls_of_wp hf hb (Code.wp_mono ?_ hwp)
 rintro e a' w' ⟨σ',G',hq,hs'⟩
 have key : fin P fn bxs.length nw r bxs' σ'→a'.defers = []∧∃ v,(results fn a'.tmps).run P w' = .ok v w'∧∃ v' G'',Ending.returned v = .returned v'∧VRel G'' (cY bxs') v' r∧BSim P (fun b=>b < w.heap.size∧∀ k,G.γ k ≠ some b) G'' (cY bxs') w' ∧
   WStep (fun b=>b < w.heap.size∧∀ k,G.γ k ≠ some b) w w'∧BStep G (cY bxs) G'' (cY bxs')∧∀ b o,b < w.heap.size→(∀ k,G.γ k ≠ some b)→G''.Z b o = G.Z b o:=fun hfin=>by
  refine ⟨hs'.defers,?_⟩
  have hsnd : Snd E.P σ' (yb P fn.results.toList fun vs=>.need (mM nw = true∧Bu bxs.length nw = true∧i8 (gX bxs.length nw) σ' 8 (yG vs) = r∧(gX bxs.length nw).map (fun b=>oA (gX bxs.length nw) σ' (bj σ' b)) = bxs') (.done [])) (fun _=>∃ (vs : List Value) (ys : List AV),
    (fn.results.toList.mapM (mT a'.tmps)).run P w' = .ok vs w'∧vs.length = ys.length∧(∀ j (hj : j < ys.length),VRel G' (bj σ') (vs.getD j undef) ys[j])∧mM nw = true∧Bu bxs.length nw = true∧i8 (gX bxs.length nw) σ' 8 (yG ys) = r∧(gX bxs.length nw).map (fun b=>oA (gX bxs.length nw) σ' (bj σ' b)) = bxs') :=
   ua hs' fun vs ys h1 h2 h3=>.need fun ⟨h6,h7,h4,h5⟩=>.done ⟨vs,ys,h1,h2,h3,h6,h7,h4,h5⟩
  obtain ⟨_,_,_,vs',ys,h1,h2,h3,hnd,hnw,h4,h5⟩:=hsnd _ hfin
  have hrun : (results fn a'.tmps).run P w' = .ok (if h : vs'.toArray.size = 1 then vs'.toArray[0] else .tuple vs'.toArray) w':=by
   have e1 : (fn.results.mapM (mT a'.tmps)).run P w' = .ok vs'.toArray w':=by
    rw [Array.mapM_eq_mapM_toList]
    simp [h1]
   unfold results
   rw [Sem.run_bind]
   show ((fn.results.mapM (mT a'.tmps)).run P w').andThen _ = _
   rw [e1]
   rfl
  have hval : VRel G' (bj σ') (if h : vs'.toArray.size = 1 then vs'.toArray[0] else .tuple vs'.toArray) (yG ys):=by
   by_cases h1' : vs'.length = 1
   ·rw [dif_pos (by simpa using h1')]
    cases vs' with
    | nil=>simp at h1'
    | cons v vs' =>
     cases vs' with
     | cons _ _=>simp at h1'
     | nil =>
      cases ys with
      | nil=>simp at h2
      | cons y ys =>
       cases ys with
       | cons _ _=>simp at h2
       | nil=>exact h3 0 (by simp)
   ·rw [dif_neg (by simpa using h1')]
    have : yG ys = .tup ys:=by
     cases ys with
     | nil=>rfl
     | cons y ys =>
      cases ys with
      | nil=>exact absurd h2 h1'
      | cons _ _=>rfl
    rw [this]
    exact .tup _ _ (by simpa using h2) fun j hj=>by simpa [Array.getD_eq_getD_getElem?] using h3 j hj
  obtain ⟨ex,hex⟩ : ∃ ex,ex = gX bxs.length nw:=⟨_,rfl⟩
  rw [← hex] at h4 h5
  have hexd : ex.Nodup:=by
   rw [hex]
   refine List.nodup_append.2 ⟨?_,qU hnd,fun x hx y hy=>?_⟩
   ·exact List.Pairwise.map _ (fun x y h=>by omega) List.nodup_range
   ·obtain ⟨i,_,rfl⟩:=List.mem_map.1 hx
    have:=(List.all_eq_true.1 hnw) y hy
    simp at this;omega
  have hex10 : ∀ b ∈ ex,10000≤b:=fun b hb=>by
   rw [hex] at hb
   rcases List.mem_append.1 hb with hb | hb
   ·obtain ⟨i,_,rfl⟩:=List.mem_map.1 hb;omega
   ·have:=(List.all_eq_true.1 hnw) b hb
    simp at this;omega
  have hexi : ∀ i,i < bxs.length→ex[i]? = some (20000 + i):=fun i hi=>by
   rw [hex,gX,List.getElem?_append_left (by simpa using hi)];simp [hi]
  have hext : ∀ j b,ex[j]? = some b→cY bxs' (20000 + j) = oA ex σ' (bj σ' b):=fun j b hj=>oC (by rw [← h5];simp [hj])
  have hγx : ∀ k g,(GhX ex G' σ' w').γ k = some g→∃ j b,k = 20000 + j∧ex[j]? = some b∧G'.γ b = some g:=fun k g hk=>by
   have hk' : (if 20000≤k then (ex[k - 20000]?).bind G'.γ else none) = some g:=hk
   split at hk'
   ·rename_i q1
    obtain ⟨b,q2,q3⟩:=Option.bind_eq_some_iff.1 hk'
    exact ⟨k - 20000,b,by omega,q2,q3⟩
   ·cases hk'
  have hbc : ∀ j b cs ty,ex[j]? = some b→bj σ' b = .bc cs ty→∃ cs',cY bxs' (20000 + j) = .bc cs' ty:=fun j b cs ty hb hB=>⟨_,by rw [hext j b hb,hB];rfl⟩
  have hbt : ∀ j b n e,ex[j]? = some b→bj σ' b = .bt n e→cY bxs' (20000 + j) = .bt n e:=fun j b n e hb hB=>by rw [hext j b hb,hB];rfl
  refine ⟨_,hrun,_,GhX ex G' σ' w',rfl,?_,?_,⟨hs'.fr.os,hs'.fr.tape,hs'.fr.output,hs'.fr.size,fun b hb _=>(hs'.fr.block b hb).2⟩,?_,fun b o hb1 hb2=>?_⟩
  ·rw [← h4]
   exact nq hs' hbc hbt 8 hval
  ·refine ⟨fun b o v hz=>?_,fun k g hk=>?_,fun k cs ty hk hB=>?_,fun k k' g hk hk'=>?_,hs'.st.gl.mono (kX _ _ _ _)⟩
   ·rcases wo hz with hz | ⟨hc,k,cs,ty,h6,h7,h8,h9⟩
    ·exact hs'.st.agree b o v hz
    ·refine ⟨hc,?_⟩
     cases hm : isM ty with
     | true =>
      obtain ⟨_,_,hbx⟩:=hs'.st.box k b h7
      rcases hbx with ⟨cs1,ty1,e1,⟨hm1,_⟩ | ⟨_,es,clk,e2,_⟩⟩ | ⟨_,_,e1,_⟩
      ·rw [h8] at e1;cases e1;rw [hm] at hm1;cases hm1
      ·simp [World.cell?,e2] at hc
      ·rw [h8] at e1;cases e1
     | false =>
     obtain ⟨c,hc1,hr,_,_,hfc⟩:=iB hs' (hs'.st.box k b h7).1 h8 h7 hm
     rw [cell_of_row _ b o c ty _ hc1] at hc
     obtain ⟨q1,q2⟩:=Array.getElem?_eq_some_iff.1 hc
     have:=(iL hr h9).2
     rw [Array.getD_eq_getD_getElem?,Array.getElem?_eq_getElem q1] at this
     simpa [q2] using this
   ·obtain ⟨j,b,rfl,q0,q1⟩:=hγx k g hk
    obtain ⟨p1,p2,p3⟩:=hs'.st.box b g q1
    refine ⟨by omega,p2,?_⟩
    have hne : ∀ k' cs ty,k' ∉ ex→G'.γ k' = some g→bj σ' k' = .bc cs ty→False:=fun k' cs ty e1 e2 _=>by
     have:=hs'.st.inj k' b g e2 q1
     exact e1 (this ▸ List.mem_of_getElem? q0)
    rcases p3 with ⟨cs,ty,r1,r2⟩ | ⟨n,e,r1,c,r2,r3,r4,r5,r6⟩
    ·exact .inl ⟨cs.map (i8 ex σ' 4),ty,by rw [hext j b q0,r1];rfl,r2.to _ (fun _=>rfl) (fun _ _ h=>nq hs' hbc hbt 4 h) rfl fun o ho=>kY ho hne⟩
    ·refine .inr ⟨n,e,by rw [hext j b q0,r1];rfl,c,r2,?_,?_,?_,fun o ho=>kY (r6 o ho) hne⟩
     all_goals (show _;simp only [GhX,(iz G' q0).2];assumption)
   ·unfold cY at hB
    split at hB
    ·rename_i h20
     cases hj : ex[k - 20000]? with
     | none =>
      rw [List.getD_eq_getElem?_getD,← h5,List.getElem?_map,hj] at hB
      simp at hB
     | some b =>
      rw [List.getD_eq_getElem?_getD,← h5,List.getElem?_map,hj] at hB
      simp only [Option.map_some,Option.getD_some] at hB
      have : ∃ cs',bj σ' b = .bc cs' ty:=by
       cases hm : bj σ' b <;> rw [hm] at hB <;> simp [oA] at hB
       rename_i cs' ty'
       exact ⟨cs',by rw [hB.2]⟩
      obtain ⟨cs',hm⟩:=this
      obtain ⟨g,hg⟩:=hs'.st.real b cs' ty (hex10 b (List.mem_of_getElem? hj)) hm
      have hc:=(iz G' hj).1
      rw [show 20000 + (k - 20000) = k by omega] at hc
      exact ⟨g,hc.trans hg⟩
    ·cases hB
   ·obtain ⟨j,b,rfl,q0,q1⟩:=hγx k g hk
    obtain ⟨j',b',rfl,q2,q3⟩:=hγx k' g hk'
    have:=hs'.st.inj b b' g q1 q3
    subst this
    rw [← qH hexd q0,← qH hexd q2]
  ·refine ⟨hs'.step.1.trans (kX _ _ _ _),fun k hk=>?_⟩
   obtain ⟨s1,s2⟩:=hs'.step.2 k hk
   by_cases hx : 20000≤k∧k < 20000 + bxs.length
   ·have hi:=hexi (k - 20000) (by omega)
    have e1 : 20000 + (k - 20000) = k:=by omega
    have hc:=iz G' hi
    have he:=hext _ _ hi
    rw [e1] at hc he
    have hγ : (GhX ex G' σ' w').γ k = G'.γ k:=hc.1
    have hκ : (GhX ex G' σ' w').κ k = G'.κ k:=hc.2
    rw [hγ,hκ,he]
    refine ⟨fun cs ty hc=>?_,fun n e hc=>?_⟩
    ·obtain ⟨⟨cs',t1⟩,t2⟩:=s1 cs ty hc
     exact ⟨⟨_,by rw [t1];rfl⟩,t2⟩
    ·obtain ⟨n',t1,t2⟩:=s2 n e hc
     exact ⟨n',by rw [t1];rfl,t2⟩
   ·have : cY bxs k = .u:=by
     unfold cY
     split
     ·rw [List.getD_eq_getElem?_getD,List.getElem?_eq_none (by omega)];rfl
     ·rfl
    rw [this]
    exact ⟨(fun _ _ hc=>by cases hc),(fun _ _ hc=>by cases hc)⟩
  ·have hz1:=hs'.zp b o ⟨hb1,hb2⟩
   show gi ex G' σ' w' b o = G.Z b o
   cases hz2 : G'.Z b o with
   | some v =>
    have e1 : some v = G.Z b o:=hz2.symm.trans hz1
    rw [← e1]
    exact kX _ _ _ _ _ _ _ hz2
   | none =>
    have e1 : none = G.Z b o:=hz2.symm.trans hz1
    rw [← e1]
    exact kY hz2 fun k cs ty _ q2 _=>(hs'.st.box k b q2).2.1 ⟨hb1,hb2⟩
 cases e with
 | normal=>exact key hq
 | ret=>exact key hq
 | _=>exact hq.elim
end
end Go.Proofs.YtkjnkkmokojnpaaGreatDoor
namespace Go.Proofs.YtkjnkkmokojnpaaGreatDoor
set_option linter.unusedSimpArgs false
set_option linter.unusedVariables false
open Go.RowKit
abbrev Rec:=List Nat × List (Nat × AV)
def lm : List (Nat × AV)→Nat→Option AV
 | [],_=>none
 | (k,v) :: r,i=>match lm r i with
  | some x=>some x
  | none=>if k = i then some v else none
theorem kj (d : List (Nat × AV)) : ∀ (σ : bL) (k : Nat),bj (dT σ d) k = (lm d k).getD (bj σ k):=by
 induction d with
 | nil=>intro σ k;rfl
 | cons p r ih =>
  obtain ⟨i,v⟩:=p
  intro σ k
  show bj (dT (gh σ i v) r) k = _
  rw [ih,eN]
  simp only [lm]
  cases lm r k with
  | some x=>rfl
  | none=>simp only [Option.getD_none];split <;> rfl
def uJ (F : Nat→AV) (d : List (Nat × AV)) : Nat→AV:=fun k=>(lm d k).getD (F k)
theorem lookD_mem : ∀ {d : List (Nat × AV)} {k : Nat},(lm d k).isSome = true ↔ k ∈ d.map (·.1)
 | [],k=>by simp [lm]
 | (i,v) :: r,k=>by
  have ih:=lookD_mem (d:=r) (k:=k)
  simp only [lm,List.map_cons,List.mem_cons]
  cases h : lm r k with
  | some x=>rw [h] at ih;simp at ih ⊢;exact .inr ih
  | none =>
   rw [h] at ih
   simp only [Option.isSome_none,Bool.false_eq_true,false_iff] at ih
   by_cases e : i = k
   ·simp [e]
   ·rw [if_neg e];simp [ih];exact fun h=>e h.symm
theorem mK {d : List (Nat × AV)} {k : Nat} (h : k ∉ d.map (·.1)) : lm d k = none:=by
 cases h' : lm d k with
 | none=>rfl
 | some x=>exact absurd (lookD_mem.1 (by rw [h'];rfl)) h
theorem qO {d : List (Nat × AV)} {k : Nat} (h : k ∈ d.map (·.1)) : ∃ x,lm d k = some x:=Option.isSome_iff_exists.1 (lookD_mem.2 h)
def gZ (P : Program) (N : Nat) (tk : FuncId→Bool) (ops : Array Oper) : List Oper→bL→List Rec→(bL→List Rec→Prop)→Prop
 | [],σ,acc,K=>K σ acc
 | o :: r,σ,acc,K=>match o.guard with
  | none=>(aop P N tk o).wp P σ fun R d=>gZ P N tk ops r (dT σ d) (acc ++ [(R,d)]) K
  | some (g,want)=>match no ops g with
   | some t=>t < 10000∧match bj σ t with
    | .c (.bool b)=>if b = want then (aop P N tk o).wp P (gh σ t (.c (.bool want))) fun R d=>gZ P N tk ops r (dT (gh σ t (.c (.bool want))) d) (acc ++ [(t :: R,d)]) K
      else fh N o∧gZ P N tk ops r (dT (gh σ t (.c (.bool (!want)))) (fB o (.c undef))) (acc ++ [([t],fB o (.c undef))]) K
    | .c (.tuple _)=>fh N o∧gZ P N tk ops r (dT σ (fB o (.c undef))) (acc ++ [([t],fB o (.c undef))]) K
    | _=>False
   | none=>False
section
variable {E : Env}
theorem Sim.ext {σ σ' : bL} {a : Act} {w : World} {G : Gh} (h : Sim E σ a w G) (he : ∀ k,bj σ' k = bj σ k) : Sim E σ' a w G:=by
 have hf : bj σ' = bj σ:=funext he
 exact ⟨h.defers,h.tsize,by rw [hf];exact h.slots,by rw [hf];exact h.st,h.fr,by rw [hf];exact h.step,h.zp⟩
def sX (E : Env) (ops : Array Oper) (o : Oper) (F : Nat→AV) (x : Rec) : Prop :=
 ∀ σ,(∀ k ∈ x.1,bj σ k = F k)→∀ a w G (K' : Act→World→Prop) (Q : Exit→Act→World→Prop),Sim E σ a w G→(∀ a' w' G',Sim E (dT σ x.2) a' w' G'→K' a' w') →
  if Region.wanted o (yielded ops a.tmps) then o.wp E.P a w K' Q else K' (a.put o.dst undef) w
def kZ (F : Nat→AV) (l : List Rec) : Nat→AV:=l.foldl (fun F x=>uJ F x.2) F
theorem pc {tk : FuncId→Bool} {ops : Array Oper} {K : bL→List Rec→Prop} : ∀ {l : List Oper} {σ : bL} {acc : List Rec} (hsim : True),gZ E.P E.N tk ops l σ acc K →
  ∃ recs σ',K σ' (acc ++ recs)∧recs.length = l.length∧(∀ i (h1 : i < l.length) (h2 : i < recs.length),sX E ops l[i] (kZ (bj σ) (recs.take i)) recs[i])∧∀ k,bj σ' k = kZ (bj σ) recs k
 | [],σ,acc,_,h=>⟨[],σ,by have h' : K σ acc:=h;simpa using h',rfl,fun i h1=>by simp at h1,fun k=>rfl⟩
 | o :: r,σ,acc,_,h=>by
  have cont : ∀ (σ1 : bL) (x : Rec),(∀ k,bj σ1 k = uJ (bj σ) x.2 k)→sX E ops o (bj σ) x→gZ E.P E.N tk ops r σ1 (acc ++ [x]) K →
    ∃ recs σ',K σ' (acc ++ recs)∧recs.length = (o :: r).length∧(∀ i (h1 : i < (o :: r).length) (h2 : i < recs.length),sX E ops (o :: r)[i] (kZ (bj σ) (recs.take i)) recs[i])∧∀ k,bj σ' k = kZ (bj σ) recs k:=fun σ1 x h1 h2 h3=>by
   obtain ⟨recs,σ',k1,k2,k3,k4⟩:=pc (l:=r) trivial h3
   have hf : bj σ1 = uJ (bj σ) x.2:=funext h1
   refine ⟨x :: recs,σ',by simpa using k1,by simp [k2],fun i h4 h5=>?_,fun k=>?_⟩
   ·cases i with
    | zero=>exact h2
    | succ i =>
     have:=k3 i (by simpa using h4) (by simpa using h5)
     rw [hf] at this
     exact this
   ·rw [k4,hf];rfl
  unfold gZ at h
  split at h
  ·rename_i hg
   obtain ⟨R,d,h1,h2⟩:=TR.frame h
   refine cont _ (R,d) (fun k=>kj d σ k) (fun σ' hσ a w G K' Q hs hK'=>?_) h1
   obtain ⟨R',d',⟨_,rfl⟩,hgood⟩:=lV hs tk o _ (h2 σ' hσ)
   rw [if_pos (by simp [Region.wanted,hg])]
   exact Oper.wp_mono (fun a' w' ⟨G',hG'⟩=>hK' a' w' G' hG') (hgood Q)
  ·rename_i g want hg
   split at h
   ·rename_i t ht
    obtain ⟨ht',h⟩:=h
    split at h
    ·rename_i b hb
     have h:=zD h
     have same : ∀ v,v = AV.c (.bool b)→∀ k,bj (gh σ t v) k = bj σ k:=fun v hv k=>by
      rw [eN];split
      ·rename_i e;subst e;rw [hb,hv]
      ·rfl
     by_cases hbw : b = want
     ·subst hbw
      obtain ⟨R,d,h1,h2⟩:=TR.frame (h.1 rfl)
      refine cont _ (t :: R,d) (fun k=>by rw [kj,same _ rfl];rfl) (fun σ' hσ a w G K' Q hs hK'=>?_) h1
      have hy:=nf hs ht ht' ((hσ t (by simp)).trans hb)
      obtain ⟨R',d',⟨_,rfl⟩,hgood⟩:=lV hs tk o _ (h2 σ' fun k hk=>(hσ k (by simp [hk])).trans (same _ rfl k).symm)
      rw [if_pos (by simp [Region.wanted,hg,hy])]
      exact Oper.wp_mono (fun a' w' ⟨G',hG'⟩=>hK' a' w' G' hG') (hgood Q)
     ·have hbn : b = !want:=by cases b <;> cases want <;> simp_all
      obtain ⟨hd,h2⟩:=h.2 hbn
      refine cont _ ([t],fB o (.c undef)) (fun k=>by rw [kj,same _ (by rw [hbn])];rfl) (fun σ' hσ a w G K' Q hs hK'=>?_) h2
      have hy:=nf hs ht ht' ((hσ t (by simp)).trans hb)
      rw [if_neg (by simp [Region.wanted,hg,hy,hbw])]
      exact hK' _ _ _ (l7 hs hd)
    ·rename_i vs hb
     refine cont _ ([t],fB o (.c undef)) (fun k=>kj _ σ k) (fun σ' hσ a w G K' Q hs hK'=>?_) h.2
     have hy:=px hs ht ht' ((hσ t (by simp)).trans hb)
     rw [if_neg (by simp [Region.wanted,hg,hy])]
     exact hK' _ _ _ (l7 hs h.1)
    ·exact h.elim
   ·exact h.elim
def uR (a b : List Nat) : Bool:=a.any fun x=>b.contains x
def iC (x y : Rec) : Bool:=uR (x.2.map (·.1)) y.1 || uR x.1 (y.2.map (·.1)) || uR (x.2.map (·.1)) (y.2.map (·.1))
def DI (anc : List (List Nat)) (o : Oper) : List Nat:=o.after.toList.flatMap fun e=>if Region.binds .any e then e.on :: anc.getD e.on [] else []
def Ba : List Oper→List (List Nat)→List (List Nat)
 | [],anc=>anc
 | o :: r,anc=>Ba r (anc ++ [DI anc o])
def mD (ops : List Oper) (recs : List Rec) : Bool :=
 (ops.zipIdx.all fun p=>p.1.after.toList.all fun e=>!Region.binds .any e || decide (e.on < p.2)) &&
 (List.range ops.length).all fun j=>(List.range j).all fun i=>!iC (recs.getD i ([],[])) (recs.getD j ([],[])) || ((Ba ops []).getD j []).contains i
inductive ul (ops : List Oper) : Nat→Nat→Prop
 | edge (i j : Nat) (o : Oper) (e : Edge) (ho : ops[j]? = some o) (he : e ∈ o.after) (hb : Region.binds .any e = true) (hi : e.on = i) : ul ops i j
 | more (i j : Nat) (o : Oper) (e : Edge) (ho : ops[j]? = some o) (he : e ∈ o.after) (hb : Region.binds .any e = true) (hp : ul ops i e.on) : ul ops i j
theorem sm {ops : List Oper} : ∀ {l done : List Oper} {acc : List (List Nat)},ops = done ++ l→acc.length = done.length→(∀ j i,i ∈ acc.getD j []→ul ops i j)→∀ j i,i ∈ (Ba l acc).getD j []→ul ops i j
 | [],done,acc,_,_,h=>h
 | o :: r,done,acc,ho,hl,h=>by
  refine sm (l:=r) (done:=done ++ [o]) (by rw [ho];simp) (by simp [hl]) fun j i hi=>?_
  rcases Nat.lt_trichotomy j acc.length with hj | hj | hj
  ·rw [List.getD_eq_getElem?_getD,List.getElem?_append_left hj] at hi
   exact h j i (by rw [List.getD_eq_getElem?_getD];exact hi)
  ·have hoj : ops[j]? = some o:=by rw [ho,hj,hl];simp
   rw [List.getD_eq_getElem?_getD,hj,List.getElem?_append_right (Nat.le_refl _)] at hi
   simp only [Nat.sub_self,List.getElem?_cons_zero,Option.getD_some] at hi
   unfold DI at hi
   obtain ⟨e,he,hi⟩:=List.mem_flatMap.1 hi
   split at hi
   ·rename_i hb
    rcases List.mem_cons.1 hi with rfl | hi
    ·exact .edge _ j o e hoj (by simpa using he) hb rfl
    ·exact .more i j o e hoj (by simpa using he) hb (h e.on i hi)
   ·simp at hi
  ·rw [List.getD_eq_getElem?_getD,List.getElem?_eq_none (by simp;omega)] at hi
   simp at hi
section order
variable {E : Env} {ops : Array Oper} {recs : List Rec} {F : Nat→AV}
def part (F : Nat→AV) (recs : List Rec) (D : Nat→Bool) : Nat→Nat→AV
 | 0=>F
 | m + 1=>if D m then uJ (part F recs D m) (recs.getD m ([],[])).2 else part F recs D m
def xB (recs : List Rec) (i : Nat) : List Nat:=(recs.getD i ([],[])).2.map (·.1)
theorem mf {D D' : Nat→Bool} {k : Nat} : ∀ {m : Nat},(∀ i,i < m→k ∈ xB recs i→D i = D' i)→part F recs D m k = part F recs D' m k
 | 0,_=>rfl
 | m + 1,h=>by
  have ih:=mf (m:=m) fun i hi hk=>h i (by omega) hk
  by_cases hk : k ∈ xB recs m
  ·have e:=h m (by omega) hk
   simp only [part,e]
   split
   ·obtain ⟨x,hx⟩:=qO hk
    simp only [uJ,hx,Option.getD_some]
   ·exact ih
  ·have hn:=mK hk
   simp only [part]
   split <;> split <;> (try simp only [uJ,hn,Option.getD_none]) <;> exact ih
theorem oM {D : Nat→Bool} {k : Nat} {j : Nat} : ∀ {m : Nat},j≤m→(∀ i,j≤i→i < m→D i = true→k ∉ xB recs i)→part F recs D m k = part F recs D j k
 | 0,hj,_=>by obtain rfl : j = 0:=(by omega);rfl
 | m + 1,hj,h=>by
  by_cases e : j = m + 1
  ·rw [e]
  ·have ih:=oM (m:=m) (by omega) fun i h1 h2 h3=>h i h1 (by omega) h3
   simp only [part]
   split
   ·rename_i hd
    simp only [uJ,mK (h m (by omega) (by omega) hd),Option.getD_none];exact ih
   ·exact ih
theorem qY : ∀ {m : Nat},m≤recs.length→part F recs (fun _=>true) m = kZ F (recs.take m)
 | 0,_=>rfl
 | m + 1,h=>by
  rw [List.take_succ_eq_append_getElem (by omega)]
  simp only [kZ,List.foldl_append,List.foldl_cons,List.foldl_nil,part,if_true]
  rw [qY (m:=m) (by omega),List.getD_eq_getElem?_getD,List.getElem?_eq_getElem (by omega)]
  rfl
theorem meets_iff {a b : List Nat} : uR a b = true ↔ ∃ x,x ∈ a∧x ∈ b:=by simp [uR]
theorem xH (hlen : recs.length = ops.size) (hok : mD ops.toList recs = true) {Q : Exit→Act→World→Prop} (hstep : ∀ i (h1 : i < ops.size) (h2 : i < recs.length),sX E ops ops[i] (kZ F (recs.take i)) recs[i])
  (hQ : ∀ σ a w G,(∀ k,bj σ k = kZ F recs k)→Sim E σ a w G→Q .normal a w) :
  ∀ (fuel : Nat) (listed : Array Bool) (σ : bL) (a : Act) (w : World) (G : Gh),listed.size = ops.size→((List.range ops.size).filter fun i=>!listed.getD i false).length≤fuel →
   (∀ j o e,listed.getD j false = true→ops[j]? = some o→e ∈ o.after→Region.binds .any e = true→listed.getD e.on false = true) →
   (∀ k,bj σ k = part F recs (fun i=>listed.getD i false) ops.size k)→Sim E σ a w G→wpAny E.P .any ops Q fuel listed a w:=by
 have hok':=hok
 simp only [mD,Bool.and_eq_true,List.all_eq_true,List.mem_range,Bool.or_eq_true,Bool.not_eq_true',decide_eq_true_eq] at hok'
 obtain ⟨hdown,hconf⟩:=hok'
 have hpath : ∀ j i,i ∈ (Ba ops.toList []).getD j []→ul ops.toList i j:=sm (done:=[]) rfl rfl fun j i h=>by simp at h
 have hconf' : ∀ i j,i < j→j < ops.size→iC (recs.getD i ([],[])) (recs.getD j ([],[])) = true→ul ops.toList i j:=fun i j hij hj hc=>by
  rcases hconf j (by simpa using hj) i hij with h | h
  ·rw [h] at hc;cases hc
  ·exact hpath j i (by simpa using h)
 have closed : ∀ (listed : Array Bool),(∀ j o e,listed.getD j false = true→ops[j]? = some o→e ∈ o.after→Region.binds .any e = true→listed.getD e.on false = true) →
   ∀ i j,ul ops.toList i j→(∀ o,ops[j]? = some o→∀ e ∈ o.after,Region.binds .any e = true→listed.getD e.on false = true)→listed.getD i false = true:=fun listed hcl i j hp=>by
  induction hp with
  | edge j o e ho he hb hi=>intro h;rw [← hi];exact h o (by simpa using ho) e he hb
  | more j o e ho he hb hp ih =>
   intro h
   have h1:=h o (by simpa using ho) e he hb
   exact ih fun o' ho' e' he' hb'=>hcl e.on o' e' h1 ho' he' hb'
 have ready_nil : ∀ (listed : Array Bool),listed.size = ops.size→Region.ready .any ops listed = []→∀ i,i < ops.size→listed.getD i false = true:=fun listed hsz hr i=>by
  induction i using Nat.strongRecOn with
  | _ i ih =>
   intro hi
   cases h : listed.getD i false with
   | true=>rfl
   | false =>
    exfalso
    have : i ∈ Region.ready .any ops listed:=by
     rw [mem_ready]
     refine ⟨?_,ops[i],by simp [hi],fun e he hb=>?_⟩
     ·rw [Array.getD_eq_getD_getElem?] at h ⊢
      have : i < listed.size:=by omega
      rw [Array.getElem?_eq_getElem this] at h ⊢
      exact h
     ·have h1:=hdown (ops[i],i) (by
       rw [List.mem_zipIdx_iff_getElem?];simp [hi]) e (by simpa using he)
      rcases h1 with h1 | h1
      ·rw [hb] at h1;cases h1
      ·exact ih e.on h1 (by omega)
    rw [hr] at this;cases this
 have final : ∀ (listed : Array Bool) (σ : bL) (a : Act) (w : World) (G : Gh),listed.size = ops.size→(∀ k,bj σ k = part F recs (fun i=>listed.getD i false) ops.size k)→Sim E σ a w G→Region.ready .any ops listed = []→Q .normal a w:=fun listed σ a w G hsz hσ hs hr=>by
  refine hQ σ a w G (fun k=>?_) hs
  rw [hσ,mf (D':=fun _=>true) fun i hi _=>ready_nil listed hsz hr i hi,qY (by omega),← hlen,List.take_length]
 intro fuel
 induction fuel with
 | zero =>
  intro listed σ a w G hsz hcount hcl hσ hs
  have hr : Region.ready .any ops listed = []:=by
   apply List.eq_nil_iff_forall_not_mem.2
   intro j hj
   rw [mem_ready] at hj
   obtain ⟨h1,o,ho,_⟩:=hj
   have hlt:=(Array.getElem?_eq_some_iff.1 ho).1
   have h2 : ((List.range ops.size).filter fun i=>!listed.getD i false) = []:=List.eq_nil_of_length_eq_zero (by omega)
   have h3 : j ∈ ((List.range ops.size).filter fun i=>!listed.getD i false):=by
    rw [List.mem_filter]
    refine ⟨by simpa using hlt,?_⟩
    have h4 : j < listed.size:=by omega
    rw [Array.getD_eq_getD_getElem?,Array.getElem?_eq_getElem h4] at h1 ⊢
    simpa using h1
   rw [h2] at h3;cases h3
  exact ⟨hr,final listed σ a w G hsz hσ hs hr⟩
 | succ fuel ih =>
  intro listed σ a w G hsz hcount hcl hσ hs
  refine ⟨final listed σ a w G hsz hσ hs,fun j hj=>?_⟩
  rw [mem_ready] at hj
  obtain ⟨h1,o,ho,hpre⟩:=hj
  have hlt:=(Array.getElem?_eq_some_iff.1 ho).1
  have hoj : ops[j] = o:=(Array.getElem?_eq_some_iff.1 ho).2
  have hD : listed.getD j false = false:=by
   have h4 : j < listed.size:=by omega
   rw [Array.getD_eq_getD_getElem?,Array.getElem?_eq_getElem h4] at h1 ⊢
   exact h1
  have hrec : recs.getD j ([],[]) = recs[j]:=by rw [List.getD_eq_getElem?_getD,List.getElem?_eq_getElem (by omega)];rfl
  have early : ∀ i,i < j→iC (recs.getD i ([],[])) (recs.getD j ([],[])) = true→listed.getD i false = true:=fun i hij hc =>
   closed listed hcl i j (hconf' i j hij hlt hc) fun o' ho' e he hb=>by rw [ho] at ho';cases ho';exact hpre e he hb
  have late : ∀ i,j < i→i < ops.size→listed.getD i false = true→iC (recs.getD j ([],[])) (recs.getD i ([],[])) = true→False:=fun i hji hi hdi hc=>by
   have:=closed listed hcl j i (hconf' j i hji hi hc) fun o' ho' e he hb=>hcl i o' e hdi ho' he hb
   rw [hD] at this;cases this
  have hread : ∀ k ∈ (recs[j]'(by omega)).1,bj σ k = kZ F (recs.take j) k:=fun k hk=>by
   rw [hσ,← qY (by omega),oM (j:=j) (by omega),mf (D':=fun _=>true)]
   ·intro i hi hw
    refine early i hi ?_
    simp only [iC,Bool.or_eq_true]
    exact .inl (.inl (meets_iff.2 ⟨k,hw,by rw [hrec];exact hk⟩))
   ·intro i h5 h6 h7 hw
    by_cases e : i = j
    ·subst e;rw [hD] at h7;cases h7
    ·refine late i (by omega) h6 h7 ?_
     simp only [iC,Bool.or_eq_true]
     exact .inl (.inr (meets_iff.2 ⟨k,by rw [hrec];exact hk,hw⟩))
  have hst:=hstep j hlt (by omega)
  rw [hoj] at hst
  have next : ∀ a' w' G',Sim E (dT σ (recs[j]'(by omega)).2) a' w' G'→wpAny E.P .any ops Q fuel (listed.setIfInBounds j true) a' w':=fun a' w' G' hs'=>by
   have hset : ∀ i,(listed.setIfInBounds j true).getD i false = if i = j then true else listed.getD i false:=fun i=>by
    by_cases e : i = j
    ·subst e;rw [if_pos rfl,Array.getD_eq_getD_getElem?,Array.getElem?_setIfInBounds_self_of_lt (by omega)];rfl
    ·rw [if_neg e,getD_set_ne false (fun h=>e h.symm)]
   refine ih (listed.setIfInBounds j true) _ a' w' G' (by simpa using hsz) ?_ (fun i o' e hi ho' he hb=>?_) (fun k=>?_) hs'
   ·have hmem : j ∈ (List.range ops.size).filter fun i=>!listed.getD i false:=by
     rw [List.mem_filter];exact ⟨by simpa using hlt,by rw [hD];rfl⟩
    have hsub : ((List.range ops.size).filter fun i=>!(listed.setIfInBounds j true).getD i false) = ((List.range ops.size).filter fun i=>!listed.getD i false).filter (fun i=>i != j):=by
     rw [List.filter_filter]
     apply List.filter_congr
     intro i _
     rw [hset]
     by_cases e : i = j <;> simp [e]
    rw [hsub]
    have : (((List.range ops.size).filter fun i=>!listed.getD i false).filter (fun i=>i != j)).length < ((List.range ops.size).filter fun i=>!listed.getD i false).length:=by
     apply List.length_filter_lt_length_iff_exists.2
     exact ⟨j,hmem,by simp⟩
    omega
   ·rw [hset]
    by_cases e2 : e.on = j
    ·rw [if_pos e2]
    ·rw [if_neg e2]
     rw [hset] at hi
     by_cases e3 : i = j
     ·subst e3;rw [ho] at ho';cases ho';exact hpre e he hb
     ·rw [if_neg e3] at hi;exact hcl i o' e hi ho' he hb
   ·rw [kj,hσ]
    by_cases hk : k ∈ xB recs j
    ·obtain ⟨x,hx⟩:=qO hk
     rw [hrec] at hx
     rw [hx,Option.getD_some]
     have e1:=oM (F:=F) (recs:=recs) (D:=fun i=>(listed.setIfInBounds j true).getD i false) (k:=k) (j:=j + 1) (m:=ops.size) (by omega) (fun i h5 h6 h7 hw=>by
      rw [hset,if_neg (by omega)] at h7
      refine late i (by omega) h6 h7 ?_
      simp only [iC,Bool.or_eq_true]
      exact .inr (meets_iff.2 ⟨k,hk,hw⟩))
     rw [e1]
     simp only [part,hset,if_true,uJ,hrec,hx,Option.getD_some]
    ·have hn:=mK hk
     rw [hrec] at hn
     rw [hn,Option.getD_none]
     exact mf fun i hi hw=>by rw [hset,if_neg (fun e : i = j=>hk (e ▸ hw))]
  have hcase:=hst σ hread a w G (wpAny E.P .any ops Q fuel (listed.setIfInBounds j true)) Q hs next
  unfold wpOp
  rw [ho]
  simp only
  split
  ·rename_i hw;rw [if_pos hw] at hcase;exact .inl hcase
  ·rename_i hw;rw [if_neg hw] at hcase;exact hcase
theorem zt {σ : bL} {a : Act} {w : World} {G : Gh} (h : Sim E σ a w G) : Sim E σ a { w with drawn:=w.drawn + 1 } G :=
 ⟨h.defers,h.tsize,h.slots,⟨h.st.agree,h.st.box,h.st.real,h.st.inj,h.st.gl⟩,⟨h.fr.os,h.fr.tape,h.fr.output,h.fr.size,h.fr.block⟩,h.step,h.zp⟩
theorem yO (tk : FuncId→Bool) {Q : Exit→bL→Prop} {σ : bL} {id : Nat} {l : List Oper} (hm : E.P.follows .mixedOrders = true)
  (h : ∀ K : bL→List Rec→Prop,(∀ σ' recs,mD l recs = true→Q .normal σ'→K σ' recs)→gZ E.P E.N tk l.toArray l σ [] K) : aw E (.region id l.toArray true) Q σ:=fun a w G hs=>by
 obtain ⟨recs,σ',h1,h2,h3,h4⟩:=pc (E:=E) (K:=fun σ' recs=>mD l recs = true∧Q .normal σ') trivial (h _ fun σ' recs h1 h2=>⟨h1,h2⟩)
 simp only [List.nil_append] at h1
 refine wp_region_any hm (xH (F:=bj σ) (by simpa using h2) (by simpa using h1.1) (fun i h5 h6=>by simpa using h3 i (by simpa using h5) h6) (fun σ'' a' w' G' h5 h6=>⟨σ',G',h1.2,h6.ext fun k=>?ext⟩) _ _ σ a _ G (by simp) ?cnt (fun j o e hj=>?cls) (fun k=>?prt) (zt hs))
 case ext=>rw [h4 k,h5 k]
 case cnt=>exact Nat.le_trans (List.length_filter_le _ _) (by simp)
 case cls =>
  exfalso
  rw [Array.getD_eq_getD_getElem?,Array.getElem?_replicate] at hj
  split at hj <;> simp at hj
 case prt =>
  have : ∀ m,part (bj σ) recs (fun i=>(Array.replicate l.toArray.size false).getD i false) m = bj σ:=fun m=>by
   induction m with
   | zero=>rfl
   | succ m ih =>
    simp only [part]
    rw [if_neg,ih]
    rw [Array.getD_eq_getD_getElem?,Array.getElem?_replicate]
    split <;> simp
  rw [this]
end order
end
def eP (b : Nat) : Nat→AV→Bool
 | 0,_=>true
 | _ + 1,.sl _ _ (.tok b')=>b' == b
 | _ + 1,.loc b' _=>b' == b
 | _ + 1,.arr b' _ _ _=>b' == b
 | _ + 1,.mp b'=>b' == b
 | n + 1,.agg cs=>cs.any (eP b n)
 | n + 1,.tup cs=>cs.any (eP b n)
 | n + 1,.ifc _ x=>eP b n x
 | n + 1,.fn _ p q=>p.any (eP b n) || q.any (eP b n)
 | n + 1,.bc cs _=>cs.any (eP b n)
 | _ + 1,.sl _ _ .none=>false
 | _ + 1,.sl _ _ .full=>false
 | _ + 1,.c _=>false
 | _ + 1,.u=>false
 | _ + 1,.rf _ _=>false
 | _ + 1,.bt _ _=>false
def ot (b : Nat) : bL→Bool
 | []=>false
 | (k,v) :: r=>(k != b && eP b 5 v) || ot b r
def mrm (b : Nat) : bL→bL
 | []=>[]
 | (k,v) :: r=>if k = b then mrm b r else (k,v) :: mrm b r
theorem qR (b k : Nat) : ∀ σ : bL,bj (mrm b σ) k = if k = b then .u else bj σ k
 | []=>by simp [mrm,bj]
 | (i,v) :: r=>by
  have ih:=qR b k r
  unfold mrm
  by_cases e : i = b
  ·rw [if_pos e,ih]
   by_cases e2 : k = b
   ·rw [if_pos e2,if_pos e2]
   ·rw [if_neg e2,if_neg e2];simp only [bj];rw [if_neg (fun h : i = k=>e2 (h ▸ e))]
  ·rw [if_neg e]
   simp only [bj]
   by_cases e2 : i = k
   ·rw [if_pos e2,if_pos e2,if_neg (fun h=>e (e2.trans h))]
   ·rw [if_neg e2,ih,if_neg e2]
theorem mz {b : Nat} : ∀ {σ : bL},ot b σ = false→∀ k,k ≠ b→eP b 5 (bj σ k) = false
 | [],_,k,_=>rfl
 | (i,v) :: r,h,k,hk=>by
  simp only [ot,Bool.or_eq_false_iff,Bool.and_eq_false_iff] at h
  simp only [bj]
  split
  ·rename_i e;subst e
   rcases h.1 with h1 | h1
   ·simp at h1;exact absurd h1 hk
   ·exact h1
  ·exact mz h.2 k hk
section gc
variable {E : Env}
theorem mc {G : Gh} {B B' : Nat→AV} {b : Nat} (hB : ∀ k,k ≠ b→B' k = B k) : ∀ (n : Nat) {x : AV} {v : Value},eP b n x = false→VRel G B v x→VRel ⟨G.Z,fun k=>if k = b then none else G.γ k,G.κ⟩ B' v x
 | 0,x,v,h,_=>by simp [eP] at h
 | n + 1,x,v,h,hv=>by
  have lst : ∀ {cs : List AV} {vs : Array Value},cs.any (eP b n) = false→(∀ j (hj : j < cs.length),VRel G B (vs.getD j undef) cs[j])→∀ j (hj : j < cs.length),VRel ⟨G.Z,fun k=>if k = b then none else G.γ k,G.κ⟩ B' (vs.getD j undef) cs[j]:=fun {cs vs} hc hp j hj =>
   mc hB n (by rw [List.any_eq_false] at hc;simpa using hc cs[j] (List.getElem_mem hj)) (hp j hj)
  cases x with
  | c x=>rw [ee hv];exact .p (.c x)
  | u=>exact .p (.u v)
  | sl cs m o =>
   obtain ⟨ad,cap,b',off,f,rfl,hs,hf,ht⟩:=gD hv
   cases o with
   | none=>exact .p (.sl ad b' off m cap .none cs f (.inl rfl) hs.1 hs.2.1 hs.2.2.1 hs.2.2.2.1 hs.2.2.2.2)
   | full=>exact .p (.sl ad b' off m cap .full cs f (.inr ⟨rfl,hf rfl⟩) hs.1 hs.2.1 hs.2.2.1 hs.2.2.2.1 hs.2.2.2.2)
   | tok t =>
    have hne : t ≠ b:=by simpa [eP] using h
    obtain ⟨h1,tip,e,h2,h3,h4⟩:=ht t rfl
    refine .tok ad m cap cs t tip e (.sl ad b' off m cap .none cs f (.inl rfl) hs.1 hs.2.1 hs.2.2.1 hs.2.2.2.1 hs.2.2.2.2) h1 ((hB t hne).trans h2) h3 fun e'=>?_
    have:=h4 e'
    unfold oZ at *
    simp only [if_neg hne];exact this
  | rf cs o =>
   obtain ⟨b',off,f,rfl,hz,hp⟩:=kH hv
   exact .p (.rf b' off o cs f hz hp)
  | agg cs =>
   obtain ⟨vs,rfl,hs,h1,hp⟩:=iI hv
   exact .agg vs cs hs h1 (lst (by simpa [eP] using h) hp)
  | tup cs =>
   obtain ⟨vs,rfl,hs,hp⟩:=ji hv
   exact .tup vs cs hs (lst (by simpa [eP] using h) hp)
  | ifc t x =>
   obtain ⟨v',rfl,hx⟩:=gN hv
   exact .ifc t v' x (mc hB n (by simpa [eP] using h) hx)
  | fn f p q =>
   obtain ⟨va,vb,rfl,ha,hb,pa,pb⟩:=kG hv
   simp only [eP,Bool.or_eq_false_iff] at h
   exact .fn f va vb p q ha hb (lst h.1 pa) (lst h.2 pb)
  | loc b' off =>
   have hne : b' ≠ b:=by simpa [eP] using h
   obtain ⟨g,cs,ty,rfl,hb',hB',hg,hm⟩:=iJ hv
   exact .loc b' off g cs ty hb' ((hB b' hne).trans hB') ((if_neg hne).trans hg) hm
  | arr b' off m e =>
   have hne : b' ≠ b:=by simpa [eP] using h
   obtain ⟨g,cap,cs,ty,rfl,hn,hb',hB',hg,hm⟩:=jh hv
   exact .arr b' off m e cap g cs ty hb' ((hB b' hne).trans hB') ((if_neg hne).trans hg) hn hm
  | mp b' =>
   have hne : b' ≠ b:=by simpa [eP] using h
   obtain ⟨g,cs,ty,rfl,hb',hB',hg,hm⟩:=mI hv
   exact .mp b' g cs ty hb' ((hB b' hne).trans hB') ((if_neg hne).trans hg) hm
  | bc cs ty=>exact (v6 hv).elim
  | bt m e=>exact (v7 hv).elim
theorem DU {b : Nat} {σ : bL} (hb : 10000≤b∧b < 20000) (h : ot b σ = false) : ALe E σ (mrm b σ):=fun a w G hs=>by
 have hB : ∀ k,k ≠ b→bj (mrm b σ) k = bj σ k:=fun k hk=>by rw [qR,if_neg hk]
 have hr:=fun k (hk : k ≠ b) {v} (hv : VRel G (bj σ) v (bj σ k))=>mc (B':=bj (mrm b σ)) hB 5 (mz h k hk) hv
 refine ⟨⟨G.Z,fun k=>if k = b then none else G.γ k,G.κ⟩,hs.defers,hs.tsize,fun t ht=>?_,⟨hs.st.agree,fun k g hk=>?_,fun k cs ty hk hc=>?_,fun k k' g h1 h2=>?_,hs.st.gl⟩,hs.fr,⟨hs.step.1,fun k hk=>?_⟩,hs.zp⟩
 ·rw [hB t (by omega)];exact hr t (by omega) (hs.slots t ht)
 ·have hk' : (if k = b then none else G.γ k) = some g:=hk
  split at hk'
  ·cases hk'
  ·rename_i hne
   obtain ⟨h1,h2,h3⟩:=hs.st.box k g hk'
   refine ⟨h1,h2,?_⟩
   rcases h3 with ⟨cs,ty,r1,⟨rm,c,r2,r3,r4,r5⟩ | rm⟩ | ⟨n,e,r1,c,r2,r3,r4,r5,r6⟩
   ·refine .inl ⟨cs,ty,(hB k hne).trans r1,.inl ⟨rm,c,r2,r3,r4,fun j hj=>⟨?_,(r5 j hj).2⟩⟩⟩
    have h5:=mz h k hne
    rw [r1] at h5
    simp only [eP] at h5
    rw [List.any_eq_false] at h5
    exact mc hB 4 (by simpa using h5 cs[j] (List.getElem_mem hj)) (r5 j hj).1
   ·exact .inl ⟨cs,ty,(hB k hne).trans r1,.inr rm⟩
   ·exact .inr ⟨n,e,(hB k hne).trans r1,c,r2,r3,r4,r5,r6⟩
 ·have hne : k ≠ b:=fun e=>by rw [qR,if_pos e] at hc;cases hc
  rw [hB k hne] at hc
  obtain ⟨g,hg⟩:=hs.st.real k cs ty hk hc
  exact ⟨g,(if_neg hne).trans hg⟩
 ·have e1 : (if k = b then none else G.γ k) = some g:=h1
  have e2 : (if k' = b then none else G.γ k') = some g:=h2
  split at e1
  ·cases e1
  ·split at e2
   ·cases e2
   ·exact hs.st.inj k k' g e1 e2
 ·by_cases hne : k = b
  ·subst hne
   rw [E.hB0.1 k hb.2]
   exact ⟨(fun _ _ hc=>by cases hc),(fun _ _ hc=>by cases hc)⟩
  ·rw [hB k hne]
   have:=hs.step.2 k hk
   simpa only [if_neg hne] using this
def mgc : List Nat→bL→bL
 | [],σ=>σ
 | b :: r,σ=>if 10000≤b∧b < 20000∧ot b σ = false then mgc r (mrm b σ) else mgc r σ
theorem vM : ∀ (bs : List Nat) (σ : bL),ALe E σ (mgc bs σ)
 | [],σ=>fun a w G hs=>⟨G,hs⟩
 | b :: r,σ=>by
  unfold mgc
  split
  ·rename_i h
   intro a w G hs
   obtain ⟨G',hs'⟩:=DU ⟨h.1,h.2.1⟩ h.2.2 a w G hs
   exact vM r _ a w G' hs'
  ·exact vM r σ
def w6 : bL→List Nat
 | []=>[]
 | (k,_) :: r=>if 10000≤k∧k < 20000 then k :: w6 r else w6 r
def jW (L : List Nat) (σ : bL) : bL:=mgc (w6 (jK L σ)) (jK L σ)
theorem ka (L : List Nat) (σ : bL) : ALe E σ (jW L σ):=fun a w G hs=>by
 obtain ⟨G',hs'⟩:=yK L σ a w G hs
 exact vM _ _ a w G' hs'
end gc
theorem nh {E : Env} {σ : bL} {b t n : Nat} {cs : List AV} (e : TypeId) (hb : 10000≤b∧b < 20000) (ht : t < 10000) (hu : bj σ b = .u) (hv : bj σ t = .sl cs n .full) : ALe E σ (gh (gh σ b (.bt n e)) t (.sl cs n (.tok b))):=fun a w G hs=>by
 have hm : ∀ k,bj (gh (gh σ b (.bt n e)) t (.sl cs n (.tok b))) k = if t = k then .sl cs n (.tok b) else if b = k then .bt n e else bj σ k:=fun k=>by rw [eN,eN]
 have hγ : G.γ b = none:=by
  cases hg : G.γ b with
  | none=>rfl
  | some g =>
   obtain ⟨_,_,hbx⟩:=hs.st.box b g hg
   rcases hbx with ⟨_,_,h1,_⟩ | ⟨_,_,h1,_⟩ <;> rw [hu] at h1 <;> cases h1
 have hst : BStep G (bj σ) G (bj (gh (gh σ b (.bt n e)) t (.sl cs n (.tok b)))):=⟨.refl _,fun k hk=>by
  rw [hm,if_neg (by omega)]
  by_cases h1 : b = k
  ·subst h1;rw [hu];exact ⟨(fun _ _ hc=>by cases hc),(fun _ _ hc=>by cases hc)⟩
  ·rw [if_neg h1];exact ⟨fun cs ty hc=>⟨⟨cs,hc⟩,rfl⟩,fun n e hc=>⟨n,hc,.inr ⟨rfl,rfl,rfl⟩⟩⟩⟩
 refine ⟨G,hs.defers,hs.tsize,fun k hk=>?_,⟨hs.st.agree,fun k g hk=>?_,fun k cs' ty hk hc=>?_,hs.st.inj,hs.st.gl⟩,hs.fr,hs.step.trans hst,hs.zp⟩
 ·rw [hm]
  by_cases h1 : t = k
  ·subst h1
   rw [if_pos rfl]
   have h2:=hs.slots t ht
   rw [hv] at h2
   obtain ⟨ad,cap,b',off,f,ev,⟨q1,q2,q3,q4,q5⟩,hf,_⟩:=gD h2
   rw [ev]
   refine .tok ad n cap cs b n e (.sl ad b' off n cap .none cs f (.inl rfl) q1 q2 q3 q4 q5) hb.1 (by rw [hm,if_neg (by omega),if_pos rfl]) (Nat.le_refl _) fun _=>⟨fun _=>hf rfl,fun g hg=>by rw [hγ] at hg;cases hg⟩
  ·rw [if_neg h1,if_neg (by omega)];exact (hs.slots k hk).step hst
 ·obtain ⟨h1,h2,h3⟩:=hs.st.box k g hk
  refine ⟨h1,h2,h3.step hst ?_ rfl rfl fun _=>rfl⟩
  rw [hm,if_neg (by omega),if_neg (fun h4=>by rw [← h4,hγ] at hk;cases hk)]
 ·rw [hm,if_neg (by omega)] at hc
  by_cases h1 : b = k
  ·rw [if_pos h1] at hc;cases hc
  ·rw [if_neg h1] at hc;exact hs.st.real k cs' ty hk hc
end Go.Proofs.YtkjnkkmokojnpaaGreatDoor

/- K: a loop cut from what comes behind it. No program is in sight. K: a box that is written no more is sealed. No program is in sight. Cut in K: maps of ints as cells; functions that leave all as it was, with boxes handed in. -/
import Derived.Test.YtmpdocplcgbpkaaGreatDoorZ6
import Derived.Test.YtmpdocplcgbpkaaGreatDoorZ0
namespace Go.Proofs.YtmpdocplcgbpkaaGreatDoor
set_option linter.unusedSimpArgs false
set_option linter.unusedVariables false
open Go.RowKit
theorem kW {α : Type} (S : α→bv) (P : α→Prop) {E : Env} {c : Code} {Q : Exit→bv→Prop} {G : Prop} (use : (∀ a,P a→aw E c Q (S a))→G) (key : ∀ a,P a→aw E c Q (S a)) : G:=use key
def vO (n : Nat) : Code→Bool
 | .region id _ _=>id == n
 | .seq a _=>vO n a
 | _=>false
theorem cq (n : Nat) {E : Env} {Q : Exit→bv→Prop} {σ : bv} {x y : Code} (_ : vO n x = false) (h : aw E x (lM (aw E y Q) Q) σ) : aw E (.seq x y) Q σ:=aj h
theorem bD (n : Nat) {E : Env} {Q : Exit→bv→Prop} {σ : bv} (tk : FuncId→Bool) (LV : Nat→List Nat) {id : Nat} {l : List Oper} (_ : (id == n) = false) (h : EqTo (gD (LV id) σ) (Ae E Q tk l)) : aw E (.region id l.toArray false) Q σ:=ae tk LV h
theorem um (n : Nat) {E : Env} {Q : Exit→bv→Prop} {σ : bv} (tk : FuncId→Bool) (LV : Nat→List Nat) {id : Nat} {l : List Oper} (_ : (id == n) = false) (hm : E.P.follows .mixedOrders = true) (h : EqTo (gD (LV id) σ) (Ad E Q tk l)) : aw E (.region id l.toArray true) Q σ:=cg tk LV hm h
theorem bL {E : Env} {Q : Exit→bv→Prop} {σ σ' : bv} {c : Code} {L : List Nat} (hσ : gD L σ = σ') (h : aw E c Q σ') : aw E c Q σ:=gn (hU L σ) (hσ ▸ h)
end Go.Proofs.YtmpdocplcgbpkaaGreatDoor
namespace Go.Proofs.YtmpdocplcgbpkaaGreatDoor
set_option linter.unusedSimpArgs false
set_option linter.unusedVariables false
open Go.RowKit
def dA (b : Nat) (cs : List AV) : Nat→AV→AV
 | 0,_=>.u
 | _ + 1,.loc b' off=>if b' = b then .rf cs off else .loc b' off
 | _ + 1,.arr b' off n e=>if b' = b then .sl (cs.drop off) n .none else .arr b' off n e
 | k + 1,.agg l=>.agg (l.map (dA b cs k))
 | k + 1,.tup l=>.tup (l.map (dA b cs k))
 | k + 1,.ifc t x=>.ifc t (dA b cs k x)
 | k + 1,.fn f p q=>.fn f (p.map (dA b cs k)) (q.map (dA b cs k))
 | k + 1,.bc l ty=>.bc (l.map (dA b cs k)) ty
 | _ + 1,.sl l n .none=>.sl l n .none
 | _ + 1,.sl l n .full=>.sl l n .full
 | _ + 1,.sl l n (.tok t)=>.sl l n (.tok t)
 | _ + 1,.c x=>.c x
 | _ + 1,.u=>.u
 | _ + 1,.rf l o=>.rf l o
 | _ + 1,.bt n e=>.bt n e
 | _ + 1,.mp b'=>if b' = b then .u else .mp b'
 | _ + 1,.ow b' off n v=>.ow b' off n v
 | _ + 1,.lo b' off v=>.lo b' off v
 | k + 1,.br l v e sz=>.br (l.map (dA b cs k)) v e sz
 | k + 1,.fo rows=>.fo (rows.map fun | .br l v e sz=>.br (l.map (dA b cs k)) v e sz | x=>x)
def lR (b : Nat) (cs : List AV) : bv→bv
 | []=>[]
 | (k,v) :: r=>if k = b then lR b cs r else (k,dA b cs 7 v) :: lR b cs r
theorem jI (b k : Nat) (cs : List AV) : ∀ σ : bv,be (lR b cs σ) k = if k = b then .u else dA b cs 7 (be σ k)
 | []=>by simp [lR,be,dA]
 | (i,v) :: r=>by
  have ih:=jI b k cs r
  unfold lR
  by_cases e : i = b
  ·rw [if_pos e,ih]
   by_cases e2 : k = b
   ·rw [if_pos e2,if_pos e2]
   ·rw [if_neg e2,if_neg e2];simp only [be];rw [if_neg (fun h : i = k=>e2 (h ▸ e))]
  ·rw [if_neg e]
   simp only [be]
   by_cases e2 : i = k
   ·rw [if_pos e2,if_pos e2,if_neg (fun h=>e (e2.trans h))]
   ·rw [if_neg e2,ih,if_neg e2]
section
variable {E : Env}
theorem pM {b : Nat} {cs : List AV} {x : AV} {n : Nat} {e : TypeId} (h : x = .bt n e) : dA b cs 7 x = .bt n e:=by subst h;rfl
theorem kO {b : Nat} {cs l : List AV} {x : AV} {ty : TypeId} (h : x = .bc l ty) : dA b cs 7 x = .bc (l.map (dA b cs 6)) ty:=by subst h;rfl
theorem mb {b : Nat} {cs l : List AV} {x : AV} {v e sz : Nat} (h : x = .br l v e sz) : dA b cs 7 x = .br (l.map (dA b cs 6)) v e sz:=by subst h;rfl
theorem uW (b : Nat) (cs : List AV) (x : AV) (i : Nat) : dv (dA b cs 7 x) i = dA b cs 7 (dv x i):=by
 cases x with
 | fo rows =>
  simp only [dA,dv,gU,List.getD_eq_getElem?_getD,List.getElem?_map]
  cases h : rows[i]? with
  | none=>rfl
  | some y=>cases y <;> rfl
 | loc b' o=>simp only [dA];by_cases h : b' = b <;> simp [h,dv,dA]
 | arr b' o n e=>simp only [dA];by_cases h : b' = b <;> simp [h,dv,dA]
 | mp b'=>simp only [dA];by_cases h : b' = b <;> simp [h,dv,dA]
 | sl l n o=>cases o <;> rfl
 | _=>rfl
theorem rb {b : Nat} {cs l : List AV} {x : AV} {ty : TypeId} (h : dA b cs 7 x = .bc l ty) : ∃ l',x = .bc l' ty:=by
 cases x with
 | bc l' ty'=>simp only [dA,AV.bc.injEq] at h;exact ⟨l',by rw [h.2]⟩
 | loc b' o=>simp only [dA] at h;split at h <;> cases h
 | arr b' o n e=>simp only [dA] at h;split at h <;> cases h
 | mp b'=>simp only [dA] at h;split at h <;> cases h
 | sl l n o=>cases o <;> simp [dA] at h
 | _=>simp [dA] at h
theorem tQ {G : Gh} {B B' : Nat→AV} {b gb : Nat} {cs0 cs : List AV} {ty0 : TypeId} (hty0 : isM ty0 = false) {Z' : fV} {c : Array Value} (hle : SealLe G.Z Z') (hBb : B b = .bc cs0 ty0) (hgb : G.γ b = some gb) (hlen : cs.length≤c.size)
  (hZ : ∀ j,j < cs.length→Z' gb j = some (c.getD j undef)) (hp : ∀ j (h : j < cs.length),PRel Z' (c.getD j undef) cs[j])
  (hB' : ∀ k,10000≤k→k ≠ b→B' k = dA b cs 7 (B k)) : ∀ (n : Nat) {x : AV} {v : Value},VRel G B v x→VRel ⟨Z',fun k=>if k = b then none else G.γ k,G.κ,G.β⟩ B' v (dA b cs n x)
 | 0,x,v,_=>.p (.u v)
 | n + 1,x,v,hv=>by
  have ih:=fun {x v}=>tQ hty0 hle hBb hgb hlen hZ hp hB' n (x:=x) (v:=v)
  have lst : ∀ {l : List AV} {vs : Array Value},(∀ j (hj : j < l.length),VRel G B (vs.getD j undef) l[j])→∀ j (hj : j < (l.map (dA b cs n)).length),VRel ⟨Z',fun k=>if k = b then none else G.γ k,G.κ,G.β⟩ B' (vs.getD j undef) (l.map (dA b cs n))[j]:=fun {l vs} hq j hj=>by
   rw [List.getElem_map];exact ih (hq j (by simpa using hj))
  cases x with
  | c x=>rw [cI hv];exact .p (.c x)
  | u=>exact .p (.u v)
  | sl l m o =>
   obtain ⟨ad,cap,b',off,f,rfl,⟨h1,h2,h3,h4,h5⟩,hf,ht⟩:=dR hv
   cases o with
   | none=>exact .p (.sl ad b' off m cap .none l f (.inl rfl) h1 h2 h3 (fun j hj=>hle _ _ _ (h4 j hj)) fun j hj=>(h5 j hj).mono hle)
   | full=>exact .p (.sl ad b' off m cap .full l f (.inr ⟨rfl,hf rfl⟩) h1 h2 h3 (fun j hj=>hle _ _ _ (h4 j hj)) fun j hj=>(h5 j hj).mono hle)
   | tok t =>
    obtain ⟨q1,tip,e,q2,q3,q4⟩:=ht t rfl
    have hne : t ≠ b:=fun e'=>by rw [e',hBb] at q2;cases q2
    refine .tok ad m cap l t tip e (.sl ad b' off m cap .none l f (.inl rfl) h1 h2 h3 (fun j hj=>hle _ _ _ (h4 j hj)) fun j hj=>(h5 j hj).mono hle) q1 ((hB' t q1 hne).trans (pM q2)) q3 fun e'=>?_
    have:=q4 e'
    unfold lu at *
    simp only [if_neg hne];exact this
  | rf l o =>
   obtain ⟨b',off,f,rfl,hz,hq⟩:=gk hv
   exact .p (.rf b' off o l f (fun j hj=>hle _ _ _ (hz j hj)) fun j hj=>(hq j hj).mono hle)
  | agg l =>
   obtain ⟨vs,rfl,hs,h1,hq⟩:=fe hv
   exact .agg vs _ (by simpa using hs) (fun j hj=>h1 j (by simpa using hj)) (lst hq)
  | tup l =>
   obtain ⟨vs,rfl,hs,hq⟩:=gt hv
   exact .tup vs _ (by simpa using hs) (lst hq)
  | ifc t x =>
   obtain ⟨v',rfl,hx⟩:=dk hv
   exact .ifc t v' _ (ih hx)
  | fn f p q =>
   obtain ⟨va,vb,rfl,ha,hb,pa,pb⟩:=g6 hv
   exact .fn f va vb _ _ (by simpa using ha) (by simpa using hb) (lst pa) (lst pb)
  | loc b' off =>
   obtain ⟨g,l,ty,rfl,hb',hB,hg,hm⟩:=ff hv
   simp only [dA]
   split
   ·rename_i e;subst e
    rw [hgb] at hg;cases hg
    have:=PRel.rf (Z:=Z') gb 0 off cs (fun j=>c.getD j undef) (fun j hj=>by rw [Nat.zero_add];exact hZ j hj) hp
    rw [Nat.zero_add] at this
    exact .p this
   ·rename_i hne
    exact .loc b' off g _ ty hb' ((hB' b' hb' hne).trans (kO hB)) ((if_neg hne).trans hg) hm
  | arr b' off m e =>
   obtain ⟨g,cap,l,ty,rfl,hn,hb',hB,hg,hm⟩:=gr hv
   simp only [dA]
   split
   ·rename_i e';subst e'
    rw [hgb] at hg;cases hg
    exact .p (.sl _ gb off m cap .none (cs.drop off) (fun j=>c.getD (off + j) undef) (.inl rfl) hn (fun h=>by cases h) (.inr rfl)
     (fun j hj=>hZ (off + j) (by simp at hj;omega)) fun j hj=>by
      rw [List.getElem_drop];exact hp (off + j) (by simp at hj;omega))
   ·rename_i hne
    exact .arr b' off m e cap g _ ty hb' ((hB' b' hb' hne).trans (kO hB)) ((if_neg hne).trans hg) hn hm
  | mp b' =>
   obtain ⟨g,l,ty,rfl,hb',hB,hg,hm⟩:=jm hv
   simp only [dA]
   split
   ·exact .p (.u _)
   ·rename_i hne
    exact .mp b' g _ ty hb' ((hB' b' hb' hne).trans (kO hB)) ((if_neg hne).trans hg) hm
  | bc l ty=>exact (sh hv).elim
  | bt m e=>exact (sj hv).elim
  | br cs v e sz=>exact (si hv).elim
  | fo rows=>exact (sk hv).elim
  | ow b' off m ver =>
   obtain ⟨ad,cap,l,v',e,sz,rfl,hn,had,hb',hB,hvv,how⟩:=gj hv
   have hne : b' ≠ b:=fun e'=>by rw [e',hBb] at hB;cases hB
   refine .ow ad m cap b' off ver _ v' e sz hb' ((hB' b' hb' hne).trans (mb hB)) hn had hvv fun hv=>?_
   have:=how hv
   unfold nr at *
   simp only [if_neg hne];exact this
  | lo b' off ver =>
   obtain ⟨g,o,l,v',e,sz,rfl,hb',hB,hvv,hk⟩:=iJ hv
   have hne : b' ≠ b:=fun e'=>by rw [e',hBb] at hB;cases hB
   exact .lo g o b' off ver _ v' e sz hb' ((hB' b' hb' hne).trans (mb hB)) hvv fun hv=>⟨(if_neg hne).trans (hk hv).1,(hk hv).2⟩
theorem uf {σ : bv} (b : Nat) {cs0 cs : List AV} {ty : TypeId} (hb : 10000≤b∧b < 20000) (hB : be σ b = .bc cs0 ty) (hty : isM ty = false) (hpu : cs0.mapM (cN 4) = some cs) : ALe E σ (lR b cs σ):=fun a w G hs=>by
 have hBr:=hB
 have hB : lm σ b = .bc cs0 ty:=(ca (by omega)).trans hBr
 obtain ⟨gb,hgb⟩:=hs.st.real b cs0 ty hb.1 hB
 obtain ⟨c,hc,hr,hz,hpr,hfc⟩:=fL hs hb.1 hB hgb hty
 have hl0:=im hpu
 have hlen : cs.length≤c.size:=by have : cs0.length≤c.size:=hfc;omega
 have hpc : ∀ j (h : j < cs.length),PRel G.Z (c.getD j undef) cs[j]:=fun j hj=>by
  have h1:=(fW hr (j:=j) (by omega)).1
  have h2:=ig hpu j (by omega) hj
  exact iw 4 h1 h2
 have hone : ∀ j,j < cs.length→(c.getD j undef).oneCell' = true:=fun j hj=>(fW hr (j:=j) (by omega)).2
 have hle : SealLe G.Z (cG G.Z gb 0 (c.toList.take cs.length)):=fS fun o _=>hz o
 have hZ : ∀ j,j < cs.length→cG G.Z gb 0 (c.toList.take cs.length) gb j = some (c.getD j undef):=fun j hj=>by
  have h:=fR (Z:=G.Z) (g:=gb) (lo:=0) (vs:=c.toList.take cs.length) (j:=j) (by simp;omega)
  rw [Nat.zero_add] at h
  rw [h];simp [Array.getD_eq_getD_getElem?,List.getD_eq_getElem?_getD,List.getElem?_take,hj]
 have hoth : ∀ g o,g ≠ gb→cG G.Z gb 0 (c.toList.take cs.length) g o = G.Z g o:=fun g o hg=>by
  unfold cG;rw [if_neg];rintro ⟨rfl,_⟩;exact hg rfl
 have hm0 : ∀ k,k ≠ b→be (lR b cs σ) k = dA b cs 7 (be σ k):=fun k hk=>by rw [jI,if_neg hk]
 have hm : ∀ k,10000≤k→k ≠ b→lm (lR b cs σ) k = dA b cs 7 (lm σ k):=fun k hk hne=>by
  show lk _ k = dA b cs 7 (lk _ k)
  unfold lk
  by_cases h1 : k < 1000000
  ·rw [if_pos h1,if_pos h1,hm0 k hne]
  ·rw [if_neg h1,if_neg h1]
   by_cases h2 : 10000≤df k
   ·rw [if_pos h2,if_pos h2]
    by_cases h3 : df k = b
    ·rw [h3,jI,if_pos rfl,hBr];rfl
    ·rw [hm0 _ h3,uW]
   ·rw [if_neg h2,if_neg h2];rfl
 have hmb : lm (lR b cs σ) b = .u:=by
  show lk _ b = _
  rw [ca (by omega),jI,if_pos rfl]
 have hrel:=fun (n : Nat) {x v}=>tQ (B':=lm (lR b cs σ)) hty hle hB hgb hlen hZ (fun j hj=>(hpc j hj).mono hle) hm n (x:=x) (v:=v)
 refine ⟨⟨cG G.Z gb 0 (c.toList.take cs.length),fun k=>if k = b then none else G.γ k,G.κ,G.β⟩,hs.defers,hs.tsize,fun t ht=>?_,⟨fun g o v hv=>?_,fun k g hk=>?_,fun k l ty' hk hkb=>?_,fun k k' g h1 h2=>?_,hs.st.gl.mono hle⟩,hs.fr,⟨hs.step.1.trans hle,fun k hk=>?_⟩,fun g o hg=>?_⟩
 ·rw [hm0 t (by omega)];exact hrel 7 (hs.slots t ht)
 ·rcases iV hv with ⟨rfl,_,h2,rfl⟩ | hv'
  ·rw [Nat.sub_zero] at h2 ⊢
   have h4 : o < cs.length:=by simp at h2;omega
   have h3 : o < c.size:=by omega
   rw [cell_of_row _ g o c ty _ hc]
   have:=hone o h4
   simp [Array.getD_eq_getD_getElem?,List.getD_eq_getElem?_getD,List.getElem?_take,h3,h4] at this ⊢
   exact this
  ·exact hs.st.agree g o v hv'
 ·have hk' : (if k = b then none else G.γ k) = some g:=hk
  split at hk'
  ·cases hk'
  ·rename_i hne
   have hgne : g ≠ gb:=fun e=>hne (hs.st.inj k b g hk' (e ▸ hgb))
   obtain ⟨h1,h2,h3⟩:=hs.st.box k g hk'
   refine ⟨h1,h2,?_⟩
   rcases h3 with ⟨l,ty',r1,r2⟩ | ⟨n,e,r1,c',r2,r3,r4,r5,r6⟩ | ⟨l,v,e,sz,r1,r2⟩
   ·exact .inl ⟨l.map (dA b cs 6),ty',(hm k h1 hne).trans (kO r1),r2.to _ (fun _=>rfl) (fun _ _ h=>hrel 6 h) rfl fun o ho=>(hoth g o hgne).trans ho⟩
   ·exact .inr (.inl ⟨n,e,(hm k h1 hne).trans (pM r1),c',r2,r3,r4,r5,fun o ho=>(hoth g o hgne).trans (r6 o ho)⟩)
   ·exact .inr (.inr ⟨_,v,e,sz,(hm k h1 hne).trans (mb r1),r2.to (dA b cs 6) (fun _ _ h=>hrel 6 h) rfl rfl rfl fun o ho=>(hoth g o hgne).trans ho⟩)
 ·have hne : k ≠ b:=fun e=>by rw [e,hmb] at hkb;cases hkb
  rw [hm k hk hne] at hkb
  obtain ⟨l',h'⟩:=rb hkb
  obtain ⟨g,hg⟩:=hs.st.real k l' ty' hk h'
  exact ⟨g,(if_neg hne).trans hg⟩
 ·have e1 : (if k = b then none else G.γ k) = some g:=h1
  have e2 : (if k' = b then none else G.γ k') = some g:=h2
  split at e1
  ·cases e1
  ·split at e2
   ·cases e2
   ·exact hs.st.inj k k' g e1 e2
 ·by_cases hne : k = b
  ·subst hne
   exact .u (E.hB0.1 k hb.2)
  ·have:=hs.step.2 k hk
   refine ⟨fun l ty' hl=>?_,fun n e hn=>?_,fun l v e sz hl=>?_⟩
   ·obtain ⟨⟨l',h1⟩,h2⟩:=this.1 l ty' hl
    exact ⟨⟨_,(hm k hk hne).trans (kO h1)⟩,(if_neg hne).trans h2⟩
   ·obtain ⟨n',h1,h2⟩:=this.2.1 n e hn
    refine ⟨n',(hm k hk hne).trans (pM h1),?_⟩
    simpa only [if_neg hne] using h2
   ·obtain ⟨l',v',h1,h2⟩:=this.2.2 l v e sz hl
    refine ⟨_,v',(hm k hk hne).trans (mb h1),?_⟩
    simpa only [if_neg hne] using h2
 ·have hgne : g ≠ gb:=fun e=>hpr (e ▸ hg)
  rw [show (Gh.mk (cG G.Z gb 0 (c.toList.take cs.length)) (fun k=>if k = b then none else G.γ k) G.κ G.β).Z g o = G.Z g o from hoth g o hgne]
  exact hs.zp g o hg
theorem mj {Q : Exit→bv→Prop} {σ σ' : bv} {c : Code} (b : Nat) {cs0 cs : List AV} {ty : TypeId} (hb : 10000≤b∧b < 20000) (hB : be σ b = .bc cs0 ty) (hty : isM ty = false) (hpu : cs0.mapM (cN 4) = some cs) (hσ : lR b cs σ = σ') (h : aw E c Q σ') : aw E c Q σ :=
 gn (uf b hb hB hty hpu) (hσ ▸ h)
end
theorem uR {G : Gh} {B : Nat→AV} (hB : ∀ k,10000≤k→B k = .u) {v : Value} {x : AV} (h : VRel G B v x) : PRel G.Z v x:=by
 induction h with
 | p h=>exact h
 | tok a n cap cs b tip e h hb hB' hn hk=>rw [hB b hb] at hB';cases hB'
 | loc b off g cs ty hb hB' hg hm=>rw [hB b hb] at hB';cases hB'
 | arr b off n e cap g cs ty hb hB' hg hn hm=>rw [hB b hb] at hB';cases hB'
 | mp b g cs ty hb hB' hg hm=>rw [hB b hb] at hB';cases hB'
 | ow a n cap b off v cs v' e sz hb hB' hn ha hv hk=>rw [hB b hb] at hB';cases hB'
 | lo g o b off v cs v' e sz hb hB' hv hk=>rw [hB b hb] at hB';cases hB'
 | agg vs cs hs h1 hp ih=>exact .agg vs cs hs h1 ih
 | tup vs cs hs hp ih=>exact .tup vs cs hs ih
 | ifc t v x h ih=>exact .ifc t v x ih
 | fn f va vb a b ha hb pa pb ia ib=>exact .fn f va vb a b ha hb ia ib
theorem iG (k : Nat) : bP [] k = .u:=by
 have e : ∀ k,dd [] k = .u:=fun k=>fZ fun h=>by have h1:=h.1;have h2:=h.2;simp only [List.length_nil] at h2;omega
 show lk (dd []) k = .u
 unfold lk
 rw [e,e]
 split
 ·rfl
 ·split <;> rfl
theorem lV (x : AV) (hx : i7 x = false) (k : Nat) : bP [x] k = if k = 20000 then x else .u:=by
 have e : ∀ k,dd [x] k = if k = 20000 then x else .u:=fun k=>by
  by_cases hk : k = 20000
  ·subst hk;rfl
  ·rw [if_neg hk,fZ fun h=>by have h1:=h.1;have h2:=h.2;simp only [List.length_cons,List.length_nil] at h2;omega]
 show lk (dd [x]) k = _
 by_cases hk : k < 1000000
 ·rw [ca hk];exact e k
 ·rw [if_neg (by omega)]
  unfold lk
  rw [if_neg hk]
  by_cases h2 : 10000≤df k
  ·rw [if_pos h2,e]
   by_cases h3 : df k = 20000
   ·rw [if_pos h3];exact mW hx _
   ·rw [if_neg h3];rfl
  ·rw [if_neg h2]
theorem c5 {P : Program} {f : FuncId} {args args0 bxs : List AV} {r : AV} (h : AFn P f args0 [] r []) (hp : args.mapM (cN 4) = some args0) : AFn P f args bxs r bxs:=fun w G vs hst hX hvs hargs=>by
 have hl:=im hp
 have hst0 : BSim P (fun b=>b < w.heap.size∧∀ k,(Gh.mk G.Z (fun _=>none) G.κ G.β).γ k ≠ some b) (Gh.mk G.Z (fun _=>none) G.κ G.β) (bP []) w :=
  ⟨hst.agree,(fun k g hk=>by cases hk),(fun k cs ty _ hk=>by rw [iG] at hk;cases hk),(fun k k' g hk=>by cases hk),hst.gl⟩
 refine (h w ⟨G.Z,fun _=>none,G.κ,G.β⟩ vs hst0 (fun g cs hg=>⟨(hX g cs hg).1,(hX g cs hg).2.1,fun k hk=>by cases hk⟩) (by omega) fun j hj=>?_).mono ?_
 ·have hj' : j < args.length:=by omega
  have hq : PRel G.Z (vs.getD j undef) args0[j]:=iw 4 (hargs j hj') (ig hp j hj' hj)
  exact .p hq
 ·rintro e w' ⟨v,G',h1,h2,h3,h4,h5,h6⟩
  have hZ : SealLe G.Z G'.Z:=h5.1
  have hz : ∀ b o,b < w.heap.size→G'.Z b o = G.Z b o:=fun b o hb=>h6 b o hb fun k hk=>by cases hk
  have hbl : ∀ k g,G.γ k = some g→g < w.heap.size:=fun k g hg=>by
   exact (hst.box k g hg).2.2.lt
  have hvr : PRel G'.Z v r:=uR (fun k _=>iG k) h2
  have hs : BStep G (bP bxs) ⟨G'.Z,G.γ,G.κ,G.β⟩ (bP bxs):=⟨hZ,fun k _=>.same rfl rfl rfl rfl⟩
  refine ⟨v,⟨G'.Z,G.γ,G.κ,G.β⟩,h1,.p hvr,⟨h3.agree,fun k g hk=>?_,hst.real,hst.inj,h3.gl⟩,⟨h4.os,h4.tape,h4.output,h4.size,fun b hb hlt=>h4.block b ⟨hlt,fun k hk=>by cases hk⟩ hlt⟩,hs,fun b o hb _=>hz b o hb⟩
  obtain ⟨q1,q2,q3⟩:=hst.box k g hk
  exact ⟨q1,q2,q3.step hs rfl rfl rfl (h4.block g ⟨hbl k g hk,fun k hk=>by cases hk⟩ (hbl k g hk)) fun o=>hz g o (hbl k g hk)⟩
attribute [go_sem] lR dA
end Go.Proofs.YtmpdocplcgbpkaaGreatDoor
namespace Go.Proofs.YtmpdocplcgbpkaaGreatDoor
set_option linter.unusedSimpArgs false
set_option linter.unusedVariables false
open Go.RowKit
abbrev inA (n : Int) : AV:=.c (.int .i64 n)
def aJ : List Tm→List AV
 | []=>[]
 | m :: r=>inA m.1 :: inA m.2 :: aJ r
theorem mz : ∀ M : List Tm,g7 .i64 (aJ M) = true
 | []=>rfl
 | m :: r=>by rw [aJ,g7,mz r];rfl
theorem tD : ∀ (M : List Tm) (v : Int),jq v (aJ M) = if v ∈ M.map (·.1) then some (inA (jk M v)) else none
 | [],v=>by simp [aJ,jq]
 | m :: r,v=>by
  rw [aJ,jq,tD r v,show jk (m :: r) v = if m.1 = v then m.2 else jk r v from rfl]
  by_cases h : m.1 = v
  ·rw [if_pos h,if_pos h,if_pos (by simp [h])]
  ·have h' : ¬ v = m.1:=fun e=>h e.symm
   rw [if_neg h,if_neg h]
   by_cases h2 : v ∈ r.map (·.1)
   ·rw [if_pos h2,if_pos (by rw [List.map_cons];exact List.mem_cons_of_mem _ h2)]
   ·rw [if_neg h2,if_neg (by rw [List.map_cons,List.mem_cons];exact fun e=>e.elim h' h2)]
theorem qo : ∀ (M : List Tm) (v : Int),¬ v ∈ M.map (·.1)→jk M v = 0
 | [],v,_=>rfl
 | m :: r,v,h=>by
  rw [List.map_cons,List.mem_cons] at h
  unfold jk
  rw [if_neg (fun e=>h (.inl e.symm)),qo r v (fun e=>h (.inr e))]
theorem ti (M : List Tm) (v : Int) : kZ false (.int .i64 0) (jq v (aJ M)) = inA (jk M v):=by
 rw [tD]
 split
 ·rfl
 ·rename_i h;rw [qo M v h];rfl
theorem wJ : ∀ (M : List Tm) (v x : Int),jV .i64 v (inA x) (aJ M) = aJ (lS M v x)
 | [],v,x=>rfl
 | m :: r,v,x=>by
  unfold lS
  rw [aJ,jV]
  by_cases h : m.1 = v
  ·rw [if_pos h,if_pos h];rfl
  ·rw [if_neg h,if_neg h,wJ r v x];rfl
end Go.Proofs.YtmpdocplcgbpkaaGreatDoor

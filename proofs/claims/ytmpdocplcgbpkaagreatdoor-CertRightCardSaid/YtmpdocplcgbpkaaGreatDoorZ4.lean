/- K: a function's contract out of its body. No program is in sight. -/
import Derived.Test.YtmpdocplcgbpkaaGreatDoorZ3
namespace Go.Proofs.YtmpdocplcgbpkaaGreatDoor
set_option linter.unusedSimpArgs false
set_option linter.unusedVariables false
open Go.RowKit
def zj (σ : bv) (k : Nat) : AV:=if k < 1000000 then be σ k else dv (be σ (df k)) (d7 k)
def eT (ex : List Nat) (σ : bv) : Nat→AV→AV
 | 0,_=>.u
 | _ + 1,.c x=>.c x
 | _ + 1,.u=>.u
 | _ + 1,.sl cs n (.tok _)=>.sl cs n .none
 | _ + 1,.sl cs n .none=>.sl cs n .none
 | _ + 1,.sl cs n .full=>.sl cs n .full
 | _ + 1,.rf cs o=>.rf cs o
 | k + 1,.agg cs=>.agg (cs.map (eT ex σ k))
 | k + 1,.tup cs=>.tup (cs.map (eT ex σ k))
 | k + 1,.ifc t x=>.ifc t (eT ex σ k x)
 | k + 1,.fn f a b=>.fn f (a.map (eT ex σ k)) (b.map (eT ex σ k))
 | k + 1,.loc b off=>if ex.contains b = true then .u else match be σ b with | .bc cs _=>.rf (cs.map (eT ex σ k)) off | _=>.u
 | k + 1,.arr b off n _=>if ex.contains b = true then .u else match be σ b with | .bc cs _=>.sl ((cs.drop off).map (eT ex σ k)) n .none | _=>.u
 | _ + 1,.bc _ _=>.u
 | _ + 1,.bt _ _=>.u
 | _ + 1,.mp _=>.u
 | k + 1,.ow b off n v=>if ex.contains (lx b) = true then .u else match zj σ b with | .br cs v' _ sz=>if v = v'∧off + n * sz≤cs.length then .sl ((dz cs off (n * sz)).map (eT ex σ k)) n .none else .u | _=>.u
 | _ + 1,.lo _ _ _=>.u
 | _ + 1,.br _ _ _ _=>.u
 | _ + 1,.fo _=>.u
def eX (ex : List Nat) (σ : bv) : Nat→AV→AV
 | 0,_=>.u
 | _ + 1,.sl cs n (.tok b)=>match eo (bJ 0 ex) b with | some b'=>.sl cs n (.tok b') | none=>.sl cs n .none
 | k + 1,.loc b off=>match eo (bJ 0 ex) b with | some b'=>.loc b' off | none=>eT ex σ (k + 1) (.loc b off)
 | k + 1,.arr b off n e=>match eo (bJ 0 ex) b with | some b'=>.arr b' off n e | none=>eT ex σ (k + 1) (.arr b off n e)
 | _ + 1,.mp b=>match eo (bJ 0 ex) b with | some b'=>.mp b' | none=>.u
 | k + 1,.agg cs=>.agg (cs.map (eX ex σ k))
 | k + 1,.tup cs=>.tup (cs.map (eX ex σ k))
 | k + 1,.ifc t x=>.ifc t (eX ex σ k x)
 | k + 1,.fn f a b=>.fn f (a.map (eX ex σ k)) (b.map (eX ex σ k))
 | _ + 1,.c x=>.c x
 | _ + 1,.u=>.u
 | _ + 1,.sl cs n .none=>.sl cs n .none
 | _ + 1,.sl cs n .full=>.sl cs n .full
 | _ + 1,.rf cs o=>.rf cs o
 | _ + 1,.bc _ _=>.u
 | _ + 1,.bt _ _=>.u
 | k + 1,.ow b off n v=>match f7 (bJ 0 ex) b with | some b'=>.ow b' off n v | none=>eT ex σ (k + 1) (.ow b off n v)
 | _ + 1,.lo b off v=>match f7 (bJ 0 ex) b with | some b'=>.lo b' off v | none=>.u
 | _ + 1,.br _ _ _ _=>.u
 | _ + 1,.fo _=>.u
def iF (ex : List Nat) (σ : bv) : AV→AV
 | .bc cs ty=>.bc (cs.map (eX ex σ 4)) ty
 | .br cs v e sz=>.br (cs.map (eX ex σ 4)) v e sz
 | .fo rows=>.fo (rows.map fun | .br cs v e sz=>.br (cs.map (eX ex σ 4)) v e sz | x=>x)
 | x=>x
noncomputable def dH (ex : List Nat) (G : Gh) (σ : bv) (w : World) : fV:=by
 classical exact fun b o=>match G.Z b o with
  | some v=>some v
  | none=>if (∃ k cs ty,trB ex k = none∧G.γ k = some b∧lm σ k = .bc cs ty∧o < cs.length)∨(∃ k cs v e sz,trB ex k = none∧G.γ k = some b∧lm σ k = .br cs v e sz∧G.β k≤o∧o < G.β k + cs.length) then w.cell? ⟨b,o,none⟩ else none
section
variable {E : Env} {σ : bv} {a : Act} {w : World} {G : Gh}
theorem iW (ex : List Nat) (G : Gh) (σ : bv) (w : World) : SealLe G.Z (dH ex G σ w):=fun b o v h=>by
 unfold dH;rw [h]
theorem sQ {ex : List Nat} {k g o : Nat} {cs : List AV} {ty : TypeId} {v : Value} (hz : G.Z g o = none) (hk : trB ex k = none) (hg : G.γ k = some g) (hB : lm σ k = .bc cs ty) (ho : o < cs.length) (hv : w.cell? ⟨g,o,none⟩ = some v) : dH ex G σ w g o = some v:=by
 unfold dH;rw [hz]
 simp only
 rw [if_pos (.inl ⟨k,cs,ty,hk,hg,hB,ho⟩)];exact hv
theorem qS {ex : List Nat} {k g o : Nat} {cs : List AV} {ver e sz : Nat} {v : Value} (hz : G.Z g o = none) (hk : trB ex k = none) (hg : G.γ k = some g) (hB : lm σ k = .br cs ver e sz) (ho : G.β k≤o∧o < G.β k + cs.length) (hv : w.cell? ⟨g,o,none⟩ = some v) : dH ex G σ w g o = some v:=by
 unfold dH;rw [hz]
 simp only
 rw [if_pos (.inr ⟨k,cs,ver,e,sz,hk,hg,hB,ho⟩)];exact hv
theorem sR {ex : List Nat} {b o : Nat} {v : Value} (h : dH ex G σ w b o = some v) : G.Z b o = some v∨(w.cell? ⟨b,o,none⟩ = some v∧((∃ k cs ty,trB ex k = none∧G.γ k = some b∧lm σ k = .bc cs ty∧o < cs.length)∨(∃ k cs v e sz,trB ex k = none∧G.γ k = some b∧lm σ k = .br cs v e sz∧G.β k≤o∧o < G.β k + cs.length))):=by
 unfold dH at h
 split at h
 ·rename_i u hu;cases h;exact .inl hu
 ·split at h
  ·rename_i hc;exact .inr ⟨h,hc⟩
  ·cases h
theorem gv {ex : List Nat} {b o : Nat} (hz : G.Z b o = none) (h : ∀ k,trB ex k = none→G.γ k = some b→False) : dH ex G σ w b o = none:=by
 unfold dH;rw [hz]
 simp only
 rw [if_neg]
 rintro (⟨k,cs,ty,h1,h2,h3,_⟩ | ⟨k,cs,v,e,sz,h1,h2,h3,_⟩) <;> exact h k h1 h2
theorem sY {ex : List Nat} {k : Nat} (h : ¬ ex.contains (lx k) = true) : trB ex k = none:=by
 unfold lx at h
 unfold trB
 split
 ·rename_i h1
  rw [if_pos h1] at h
  rw [if_neg (by simpa using h)]
 ·rename_i h1
  rw [if_neg h1] at h
  rw [if_neg (by simpa using h)]
theorem zk {k : Nat} {cs : List AV} {v e sz : Nat} (h : lm σ k = .br cs v e sz) : zj σ k = .br cs v e sz:=by
 unfold lm lk at h
 unfold zj
 split at h
 ·rename_i h1;rw [if_pos h1];exact h
 ·rename_i h1
  rw [if_neg h1]
  split at h
  ·exact h
  ·cases h
theorem nY {ex : List Nat} (h : Sim E σ a w G) {b g : Nat} {cs : List AV} {ty : TypeId} (hb : 10000≤b) (hlt : trB ex b = none) (hB : lm σ b = .bc cs ty) (hg : G.γ b = some g) (hm : isM ty = false) :
  ∃ f : Nat→Value,(∀ j,j < cs.length→dH ex G σ w g j = some (f j))∧∀ j (hj : j < cs.length),VRel G (lm σ) (f j) cs[j]:=by
 obtain ⟨c,hc,hr,hz,_,hfc⟩:=fL h hb hB hg hm
 refine ⟨fun j=>c.getD j undef,fun j hj=>?_,fun j hj=>(fW hr hj).1⟩
 refine sQ (hz j) hlt hg hB hj ?_
 have : j < c.size:=Nat.lt_of_lt_of_le hj hfc
 rw [cell_of_row _ g j c ty _ hc]
 simp [this]
theorem fP {ex : List Nat} (h : Sim E σ a w G) : ∀ (k : Nat) {x : AV} {v : Value},VRel G (lm σ) v x→PRel (dH ex G σ w) v (eT ex σ k x)
 | 0,x,v,_=>.u v
 | k + 1,x,v,hv=>by
  have lst : ∀ {cs : List AV} {vs : Array Value},(∀ j (hj : j < cs.length),VRel G (lm σ) (vs.getD j undef) cs[j])→∀ j (hj : j < (cs.map (eT ex σ k)).length),PRel (dH ex G σ w) (vs.getD j undef) (cs.map (eT ex σ k))[j]:=fun {cs vs} hp j hj=>by
   rw [List.getElem_map]
   exact fP h k (hp j (by simpa using hj))
  have hle:=iW ex G σ w
  cases x with
  | c x=>rw [cI hv];exact .c x
  | u=>exact .u v
  | sl cs n o =>
   obtain ⟨ad,cap,b,off,f,rfl,⟨h1,h2,h3,h4,h5⟩,hf,ht⟩:=dR hv
   have hp : PRel (dH ex G σ w) (.slice ad n cap) (.sl cs n .none):=.sl ad b off n cap .none cs f (.inl rfl) h1 h2 h3 (fun j hj=>hle _ _ _ (h4 j hj)) fun j hj=>(h5 j hj).mono hle
   cases o with
   | none=>exact hp
   | full=>exact .sl ad b off n cap .full cs f (.inr ⟨rfl,hf rfl⟩) h1 h2 h3 (fun j hj=>hle _ _ _ (h4 j hj)) fun j hj=>(h5 j hj).mono hle
   | tok t=>exact hp
  | rf cs o =>
   obtain ⟨b,off,f,rfl,hz,hp⟩:=gk hv
   exact .rf b off o cs f (fun j hj=>hle _ _ _ (hz j hj)) fun j hj=>(hp j hj).mono hle
  | agg cs =>
   obtain ⟨vs,rfl,hs,h1,hp⟩:=fe hv
   exact .agg vs _ (by simpa using hs) (fun j hj=>h1 j (by simpa using hj)) (lst hp)
  | tup cs =>
   obtain ⟨vs,rfl,hs,hp⟩:=gt hv
   exact .tup vs _ (by simpa using hs) (lst hp)
  | ifc t x =>
   obtain ⟨v',rfl,hx⟩:=dk hv
   exact .ifc t v' _ (fP h k hx)
  | fn f p q =>
   obtain ⟨va,vb,rfl,ha,hb,pa,pb⟩:=g6 hv
   exact .fn f va vb _ _ (by simpa using ha) (by simpa using hb) (lst pa) (lst pb)
  | loc b off =>
   obtain ⟨g,cs,ty,rfl,hb,hB,hg,hm⟩:=ff hv
   simp only [eT]
   split
   ·exact .u _
   ·rename_i hlt
    rw [(fI hB).2]
    obtain ⟨f,h1,h2⟩:=nY (ex:=ex) h hb (sY (by unfold lx;rw [if_pos (fI hB).1];exact hlt)) hB hg hm
    have:=PRel.rf (Z:=dH ex G σ w) g 0 off (cs.map (eT ex σ k)) f (fun j hj=>by rw [Nat.zero_add];exact h1 j (by simpa using hj)) (fun j hj=>by rw [List.getElem_map];exact fP h k (h2 j (by simpa using hj)))
    rwa [Nat.zero_add] at this
  | arr b off n e =>
   obtain ⟨g,cap,cs,ty,rfl,hn,hb,hB,hg,hm⟩:=gr hv
   simp only [eT]
   split
   ·exact .u _
   ·rename_i hlt
    rw [(fI hB).2]
    obtain ⟨f,h1,h2⟩:=nY (ex:=ex) h hb (sY (by unfold lx;rw [if_pos (fI hB).1];exact hlt)) hB hg hm
    refine .sl _ g off n cap .none _ (fun j=>f (off + j)) (.inl rfl) hn (fun e=>by cases e) (.inr rfl) (fun j hj=>h1 _ (by simp at hj;omega)) fun j hj=>?_
    rw [List.getElem_map,List.getElem_drop]
    exact fP h k (h2 _ (by simp at hj;omega))
  | bc cs ty=>exact .u _
  | bt n e=>exact .u _
  | mp b=>exact .u _
  | lo b off ver=>exact .u _
  | br cs ver e sz=>exact .u _
  | fo rows=>exact .u _
  | ow b off n ver =>
   obtain ⟨ad,cap,cs,v',e,sz,rfl,hn,had,hb,hB,hvv,how⟩:=gj hv
   simp only [eT]
   split
   ·exact .u _
   ·rename_i hlt
    rw [zk hB]
    simp only
    split
    ·rename_i hc
     obtain ⟨hc1,hc2⟩:=hc
     have how:=how hc1
     have hl:=fQ hc2
     by_cases hc0 : n * sz = 0∧cap = 0
     ·have e1 : dz cs off (n * sz) = []:=List.eq_nil_of_length_eq_zero (by rw [hl];exact hc0.1)
      rw [e1]
      exact .sl ad 0 0 n cap .none _ (fun _=>undef) (.inl rfl) hn had (.inl ⟨by omega,rfl⟩) (fun j hj=>by simp at hj) fun j hj=>by simp at hj
     cases hγ : G.γ b with
     | none =>
      have hcap:=how.1 hγ
      have hn0 : n = 0:=by omega
      exact absurd ⟨by rw [hn0,Nat.zero_mul],hcap⟩ hc0
     | some g =>
      obtain ⟨q1,q2⟩:=how.2 g hγ
      by_cases hcap : cap = 0
      ·have hn0 : n = 0:=by omega
       exact absurd ⟨by rw [hn0,Nat.zero_mul],hcap⟩ hc0
      have q2:=q2.resolve_left hcap
      obtain ⟨⟨c,hcc,hcs,hce,hle,hz0,hr⟩,_⟩:=eO h hB hγ
      refine .sl ad g (G.β b + off) n cap .none _ (fun j=>c.getD (G.β b + off + j) undef) (.inl rfl) hn had (.inr q2) (fun j hj=>?_) fun j hj=>?_
      ·rw [List.length_map,hl] at hj
       have hj2 : G.β b + off + j < c.size:=by omega
       refine qS (hz0 _) (sY hlt) hγ hB ⟨by omega,by omega⟩ ?_
       rw [cell_of_row _ g _ c e _ hcc]
       simp [Array.getD_eq_getD_getElem?,hj2]
      ·rw [List.length_map,hl] at hj
       rw [List.getElem_map]
       have:=(hr (off + j) (by omega)).1
       rw [← Nat.add_assoc] at this
       have e1 : (dz cs off (n * sz))[j]'(by rw [hl];exact hj) = cs[off + j]'(by omega):=by
        simp only [jM,List.getElem_take,List.getElem_drop]
       rw [e1]
       exact fP h k this
    ·exact .u _
noncomputable def GhX (ex : List Nat) (G : Gh) (σ : bv) (w : World) : Gh:=⟨dH ex G σ w,(GhC G ex).γ,(GhC G ex).κ,(GhC G ex).β⟩
theorem jf {ex : List Nat} (h : Sim E σ a w G) (hNB : NB ex) {B' : Nat→AV} (hbc : ∀ k b cs ty,trC ex k = some b→lm σ b = .bc cs ty→∃ cs',B' k = .bc cs' ty) (hbt : ∀ k b n e,trC ex k = some b→lm σ b = .bt n e→B' k = .bt n e) (hbr : ∀ k b cs v e sz,trC ex k = some b→lm σ b = .br cs v e sz→∃ cs',B' k = .br cs' v e sz) :
  ∀ (k : Nat) {x : AV} {v : Value},VRel G (lm σ) v x→VRel (GhX ex G σ w) B' v (eX ex σ k x)
 | 0,x,v,_=>.p (.u v)
 | k + 1,x,v,hv=>by
  have lst : ∀ {cs : List AV} {vs : Array Value},(∀ j (hj : j < cs.length),VRel G (lm σ) (vs.getD j undef) cs[j])→∀ j (hj : j < (cs.map (eX ex σ k)).length),VRel (GhX ex G σ w) B' (vs.getD j undef) (cs.map (eX ex σ k))[j]:=fun {cs vs} hp j hj=>by
   rw [List.getElem_map]
   exact jf h hNB hbc hbt hbr k (hp j (by simpa using hj))
  have pu : eX ex σ (k + 1) x = eT ex σ (k + 1) x→VRel (GhX ex G σ w) B' v (eX ex σ (k + 1) x):=fun e=>by rw [e];exact .p (fP h (k + 1) hv)
  cases x with
  | c x=>exact pu rfl
  | u=>exact pu rfl
  | sl cs n o =>
   cases o with
   | none=>exact pu rfl
   | full=>exact pu rfl
   | tok t =>
    cases hlk : eo (bJ 0 ex) t with
    | some b' =>
     simp only [eX,hlk]
     obtain ⟨j,q1,q2,q3⟩:=fO hlk
     rw [Nat.add_zero] at q2
     subst q2
     have q3:=eH hNB q3
     have hp:=fP (ex:=ex) h (k + 1) hv
     obtain ⟨ad,cap,b,off,f,rfl,_,_,ht⟩:=dR hv
     obtain ⟨h1,tip,e,hB,hn,hk⟩:=ht t rfl
     refine .tok ad n cap cs (20000 + j) tip e hp (by omega) (hbt (20000 + j) t tip e q3 hB) hn fun e'=>?_
     have:=hk e'
     unfold lu at *
     have hc:=dt G q3
     show ((GhC G ex).γ (20000 + j) = none→cap = n)∧∀ g,(GhC G ex).γ (20000 + j) = some g→ad = some ⟨g,0,none⟩∧cap = (GhC G ex).κ (20000 + j)
     rw [hc.1,hc.2.1];exact this
    | none =>
     refine pu ?_
     simp only [eX,eT,hlk]
  | rf cs o=>exact pu rfl
  | agg cs =>
   obtain ⟨vs,rfl,hs,h1,hp⟩:=fe hv
   exact .agg vs _ (by simpa using hs) (fun j hj=>h1 j (by simpa using hj)) (lst hp)
  | tup cs =>
   obtain ⟨vs,rfl,hs,hp⟩:=gt hv
   exact .tup vs _ (by simpa using hs) (lst hp)
  | ifc t x =>
   obtain ⟨v',rfl,hx⟩:=dk hv
   exact .ifc t v' _ (jf h hNB hbc hbt hbr k hx)
  | fn f p q =>
   obtain ⟨va,vb,rfl,ha,hb,pa,pb⟩:=g6 hv
   exact .fn f va vb _ _ (by simpa using ha) (by simpa using hb) (lst pa) (lst pb)
  | loc b off =>
   cases hlk : eo (bJ 0 ex) b with
   | some b' =>
    simp only [eX,hlk]
    obtain ⟨j,q1,q2,q3⟩:=fO hlk
    rw [Nat.add_zero] at q2
    subst q2
    have q3:=eH hNB q3
    obtain ⟨g,cs,ty,rfl,hb,hB,hg,hm⟩:=ff hv
    obtain ⟨cs',hB'⟩:=hbc (20000 + j) b cs ty q3 hB
    exact .loc (20000 + j) off g cs' ty (by omega) hB' ((dt G q3).1.trans hg) hm
   | none =>
    refine pu ?_
    show (match eo (bJ 0 ex) b with | some b'=>_ | none=>_) = _
    rw [hlk]
  | arr b off n e =>
   cases hlk : eo (bJ 0 ex) b with
   | some b' =>
    simp only [eX,hlk]
    obtain ⟨j,q1,q2,q3⟩:=fO hlk
    rw [Nat.add_zero] at q2
    subst q2
    have q3:=eH hNB q3
    obtain ⟨g,cap,cs,ty,rfl,hn,hb,hB,hg,hm⟩:=gr hv
    obtain ⟨cs',hB'⟩:=hbc (20000 + j) b cs ty q3 hB
    exact .arr (20000 + j) off n e cap g cs' ty (by omega) hB' ((dt G q3).1.trans hg) hn hm
   | none =>
    refine pu ?_
    show (match eo (bJ 0 ex) b with | some b'=>_ | none=>_) = _
    rw [hlk]
  | bc cs ty=>exact pu rfl
  | br cs v e sz=>exact pu rfl
  | fo rows=>exact pu rfl
  | ow b off n ver =>
   cases hlk : f7 (bJ 0 ex) b with
   | some b' =>
    simp only [eX,hlk]
    have q3:=k8 hNB hlk
    obtain ⟨ad,cap,cs,v',e,sz,rfl,hn,had,hb,hB,hvv,how⟩:=gj hv
    obtain ⟨cs',hB'⟩:=hbr b' b cs v' e sz q3 hB
    refine .ow ad n cap b' off ver cs' v' e sz (by have:=kh q3;omega) hB' hn had hvv fun hv=>?_
    have:=how hv
    have hc:=dt G q3
    show ((GhC G ex).γ b' = none→cap = 0)∧∀ g,(GhC G ex).γ b' = some g→off + cap * sz = (GhC G ex).κ b'∧(cap = 0∨ad = some ⟨g,(GhC G ex).β b' + off,none⟩)
    rw [hc.1,hc.2.1,hc.2.2];exact this
   | none =>
    refine pu ?_
    show (match f7 (bJ 0 ex) b with | some b'=>_ | none=>_) = _
    rw [hlk]
  | lo b off ver =>
   cases hlk : f7 (bJ 0 ex) b with
   | some b' =>
    simp only [eX,hlk]
    have q3:=k8 hNB hlk
    obtain ⟨g,o,cs,v',e,sz,rfl,hb,hB,hvv,hk⟩:=iJ hv
    obtain ⟨cs',hB'⟩:=hbr b' b cs v' e sz q3 hB
    refine .lo g o b' off ver cs' v' e sz (by have:=kh q3;omega) hB' hvv fun hv=>?_
    have hc:=dt G q3
    show (GhC G ex).γ b' = some g∧o = (GhC G ex).β b' + off
    rw [hc.1,hc.2.2];exact hk hv
   | none =>
    refine pu ?_
    show (match f7 (bJ 0 ex) b with | some b'=>_ | none=>_) = _
    rw [hlk];rfl
  | bt n e=>exact pu rfl
  | mp b =>
   cases hlk : eo (bJ 0 ex) b with
   | some b' =>
    simp only [eX,hlk]
    obtain ⟨j,q1,q2,q3⟩:=fO hlk
    rw [Nat.add_zero] at q2
    subst q2
    have q3:=eH hNB q3
    obtain ⟨g,cs,ty,rfl,hb,hB,hg,hm⟩:=jm hv
    obtain ⟨cs',hB'⟩:=hbc (20000 + j) b cs ty q3 hB
    exact .mp (20000 + j) g cs' ty (by omega) hB' ((dt G q3).1.trans hg) hm
   | none =>
    simp only [eX,hlk]
    exact .p (.u _)
def uU (P : Program) : List ResultVar→(List AV→TR)→TR
 | [],f=>f []
 | .tmp t :: r,f=>rdo (.tmp t) fun v=>uU P r fun vs=>f (v :: vs)
 | .cell b t :: r,f=>rdo (.tmp b) fun a=>my P t a fun v=>uU P r fun vs=>f (v :: vs)
def kf (tmps : Array Value) (x : ResultVar) : Sem Value:=match x with
 | .tmp t=>pure (tmps.getD t undef)
 | .cell a t=>do loadVar t (← asAddr (tmps.getD a undef))
theorem pK (h : Sim E σ a w G) {Goal : List (Nat × AV)→Prop} : ∀ {rs : List ResultVar} {f : List AV→TR},
  (∀ (vs : List Value) (ys : List AV),(rs.mapM (kf a.tmps)).run E.P w = .ok vs w→vs.length = ys.length→(∀ j (hj : j < ys.length),VRel G (lm σ) (vs.getD j undef) ys[j])→Snd E.P σ (f ys) Goal)→Snd E.P σ (uU E.P rs f) Goal
 | [],f,hf=>hf [] [] (by simp) rfl fun j hj=>by simp at hj
 | .tmp t :: r,f,hf=>Snd.rdo h fun v hv=>pK h fun vs ys h1 h2 h3=>hf (a.tmps.getD t undef :: vs) (v :: ys) (by simp [List.mapM_cons,kf,h1]) (by simp [h2]) fun j hj=>by
   cases j with
   | zero=>exact hv
   | succ j=>exact h3 j (by simpa using hj)
 | .cell b t :: r,f,hf=>Snd.rdo h fun p hp=>ol h hp fun v x hr hx=>pK h fun vs ys h1 h2 h3=>hf (v :: vs) (x :: ys) (by
   have e : (kf a.tmps (.cell b t)).run E.P w = .ok v w:=by
    simp only [kf,Sem.run_bind]
    have hr' : (Instr.loadAt t (a.tmps.getD b undef)).run E.P w = .ok v w:=hr
    cases hp' : a.tmps.getD b undef with
    | pointer q =>
     cases q with
     | none=>rw [hp'] at hr';simp [Instr.loadAt,Instr.sureAddr,stuck] at hr'
     | some q=>rw [hp'] at hr';simpa [asAddr,Instr.loadAt,Instr.sureAddr] using hr'
    | _=>rw [hp'] at hr';simp [Instr.loadAt,Instr.sureAddr,stuck] at hr'
   simp [List.mapM_cons,e,h1]) (by simp [h2]) fun j hj=>by
   cases j with
   | zero=>exact hx
   | succ j=>exact h3 j (by simpa using hj)
def vp : List AV→AV
 | [v]=>v
 | vs=>.tup vs
def eL (nb : Nat) (nw : List Nat) : List Nat:=(List.range nb).map (20000 + ·) ++ nw
def vZ (nb : Nat) (nw : List Nat) : Bool:=(nw.all fun b=>decide (10000≤b∧b < 20000)) && decide (nb + nw.length≤1000)
def ka : List Nat→Bool
 | []=>true
 | x :: r=>!r.contains x && ka r
def fin (P : Program) (fn : Func) (nb : Nat) (nw : List Nat) (r : AV) (bxs : List AV) (σ : bv) : Prop :=
 (uU P fn.results.toList fun vs=>.need (ka nw = true∧vZ nb nw = true∧eX (eL nb nw) σ 8 (vp vs) = r∧(eL nb nw).map (fun b=>iF (eL nb nw) σ (be σ b)) = bxs) (.done [])).wp P σ fun _ _=>True
def xz (P : Program) (fn : Func) (nb : Nat) (nw : List Nat) (r : AV) (bxs : List AV) : Exit→bv→Prop
 | .normal,σ=>fin P fn nb nw r bxs σ
 | .ret,σ=>fin P fn nb nw r bxs σ
 | _,_=>False
theorem mP : ∀ {l : List Nat},ka l = true→l.Nodup
 | [],_=>by simp
 | x :: r,h=>by
  simp only [ka,Bool.and_eq_true,Bool.not_eq_true'] at h
  exact List.nodup_cons.2 ⟨by simpa using h.1,mP h.2⟩
def aA (i : Nat) : List AV→bv
 | []=>[]
 | x :: r=>(i,x) :: aA (i + 1) r
theorem jp : ∀ (l : List AV) (i k : Nat) (r : bv),be (aA i l ++ r) k = if i≤k∧k < i + l.length then l.getD (k - i) .u else be r k
 | [],i,k,r=>by
  rw [if_neg (fun h=>by have:=h.1;have:=h.2;simp at this;omega)];rfl
 | x :: l,i,k,r=>by
  show be ((i,x) :: (aA (i + 1) l ++ r)) k = _
  simp only [be]
  split
  ·rename_i e;subst e;rw [if_pos (by simp)];simp
  ·rename_i e
   rw [jp l (i + 1) k r]
   by_cases hk : i + 1≤k∧k < i + 1 + l.length
   ·rw [if_pos hk,if_pos (by simp;omega)]
    have : k - i = (k - (i + 1)) + 1:=by omega
    rw [this];rfl
   ·rw [if_neg hk,if_neg (by simp;omega)]
def aO (args bxs : List AV) : bv:=aA 0 args ++ aA 20000 bxs
theorem uV (ex : List Nat) (σ : bv) (x : AV) (i : Nat) : dv (iF ex σ x) i = iF ex σ (dv x i):=by
 cases x with
 | fo rows =>
  simp only [iF,dv,gU,List.getD_eq_getElem?_getD,List.getElem?_map]
  cases h : rows[i]? with
  | none=>rfl
  | some y=>cases y <;> rfl
 | _=>rfl
theorem fZ {bxs : List AV} {k : Nat} (h : ¬ (20000≤k∧k < 20000 + bxs.length)) : dd bxs k = .u:=by
 unfold dd
 split
 ·rw [List.getD_eq_getElem?_getD,List.getElem?_eq_none (by omega)];rfl
 ·rfl
theorem aD {P : Program} {f : FuncId} {fn : Func} {c : Code} {args bxs bxs' : List AV} {r : AV} {N : Nat} (nw : List Nat) (hf : P.funcs[f]? = some fn) (hb : fn.body = some c) (hN : fn.ntmps = N) (ha : args.length≤N) (ha2 : args.length≤10000)
  (h : ∀ w0 G0 B0 Pr hB0,aw ⟨P,N,w0,G0,B0,Pr,hB0⟩ c (xz P fn bxs.length nw r bxs') (aO args bxs)) : AFn P f args bxs r bxs':=by
 subst hN
 intro w G vs hst hX hvs hargs
 have hget : ∀ k,be (aO args bxs) k = if k < args.length then args.getD k .u else dd bxs k:=fun k=>by
  unfold aO
  rw [jp]
  simp only [Nat.zero_le,true_and,Nat.zero_add,Nat.sub_zero]
  split
  ·rfl
  ·have:=jp bxs 20000 k []
   rw [List.append_nil] at this
   rw [this]
   unfold dd
   by_cases h1 : 20000≤k
   ·rw [if_pos h1]
    by_cases h2 : k < 20000 + bxs.length
    ·rw [if_pos ⟨h1,h2⟩]
    ·rw [if_neg (by omega),List.getD_eq_getElem?_getD,List.getElem?_eq_none (by omega)];rfl
   ·rw [if_neg (by omega),if_neg h1];rfl
 have hbox : ∀ k,10000≤k→lm (aO args bxs) k = bP bxs k:=mG (B:=dd bxs) (B':=be (aO args bxs)) fun k hk _=>by
  rw [hget,if_neg (by omega)]
 have hB0 : ∀ k,k < 20000→bP bxs k = .u:=fun k hk=>(ca (by omega)).trans (fZ (by omega))
 let E : Env:=⟨P,fn.ntmps,w,G,bP bxs,fun b=>b < w.heap.size∧∀ k,G.γ k ≠ some b,⟨hB0,hX⟩⟩
 have hs0 : BStep G (bP bxs) G (lm (aO args bxs)):=.congr hbox
 have hsim : Sim E (aO args bxs) { tmps:=vs ++ Array.replicate (fn.ntmps - vs.size) undef,defers:=[] } w G:=by
  refine ⟨rfl,by simp [E];omega,fun t ht=>?_,hst.congr hbox,⟨rfl,rfl,rfl,Nat.le_refl _,fun b hb=>⟨hb.1,rfl⟩⟩,hs0,fun _ _ _=>rfl⟩
  rw [hget]
  by_cases hlt : t < args.length
  ·rw [if_pos hlt]
   have:=(hargs t hlt).step hs0
   rw [List.getD_eq_getElem?_getD,List.getElem?_eq_getElem hlt]
   have e : (vs ++ Array.replicate (fn.ntmps - vs.size) undef).getD t undef = vs.getD t undef:=by
    simp [Array.getD_eq_getD_getElem?,Array.getElem?_append_left (show t < vs.size by omega)]
   rw [e];exact this
  ·rw [if_neg hlt,fZ (by omega)];exact .p (.u _)
 have hwp:=h w G (bP bxs) (fun b=>b < w.heap.size∧∀ k,G.γ k ≠ some b) ⟨hB0,hX⟩ _ w G hsim
 refine calls_of_wp hf hb (Code.wp_mono ?_ hwp)
 rintro e a' w' ⟨σ',G',hq,hs'⟩
 have key : fin P fn bxs.length nw r bxs' σ'→a'.defers = []∧∃ v,(results fn a'.tmps).run P w' = .ok v w'∧∃ v' G'',Ending.returned v = .returned v'∧VRel G'' (bP bxs') v' r∧BSim P (fun b=>b < w.heap.size∧∀ k,G.γ k ≠ some b) G'' (bP bxs') w' ∧
   WStep (fun b=>b < w.heap.size∧∀ k,G.γ k ≠ some b) w w'∧BStep G (bP bxs) G'' (bP bxs')∧∀ b o,b < w.heap.size→(∀ k,G.γ k ≠ some b)→G''.Z b o = G.Z b o:=fun hfin=>by
  refine ⟨hs'.defers,?_⟩
  have hsnd : Snd E.P σ' (uU P fn.results.toList fun vs=>.need (ka nw = true∧vZ bxs.length nw = true∧eX (eL bxs.length nw) σ' 8 (vp vs) = r∧(eL bxs.length nw).map (fun b=>iF (eL bxs.length nw) σ' (be σ' b)) = bxs') (.done [])) (fun _=>∃ (vs : List Value) (ys : List AV),
    (fn.results.toList.mapM (kf a'.tmps)).run P w' = .ok vs w'∧vs.length = ys.length∧(∀ j (hj : j < ys.length),VRel G' (lm σ') (vs.getD j undef) ys[j])∧ka nw = true∧vZ bxs.length nw = true∧eX (eL bxs.length nw) σ' 8 (vp ys) = r∧(eL bxs.length nw).map (fun b=>iF (eL bxs.length nw) σ' (be σ' b)) = bxs') :=
   pK hs' fun vs ys h1 h2 h3=>.need fun ⟨h6,h7,h4,h5⟩=>.done ⟨vs,ys,h1,h2,h3,h6,h7,h4,h5⟩
  obtain ⟨_,_,_,vs',ys,h1,h2,h3,hnd,hnw,h4,h5⟩:=hsnd _ hfin
  have hrun : (results fn a'.tmps).run P w' = .ok (if h : vs'.toArray.size = 1 then vs'.toArray[0] else .tuple vs'.toArray) w':=by
   have e1 : (fn.results.mapM (kf a'.tmps)).run P w' = .ok vs'.toArray w':=by
    rw [Array.mapM_eq_mapM_toList]
    simp [h1]
   unfold results
   rw [Sem.run_bind]
   show ((fn.results.mapM (kf a'.tmps)).run P w').andThen _ = _
   rw [e1]
   rfl
  have hval : VRel G' (lm σ') (if h : vs'.toArray.size = 1 then vs'.toArray[0] else .tuple vs'.toArray) (vp ys):=by
   by_cases h1' : vs'.length = 1
   ·rw [dif_pos (by simpa using h1')]
    cases vs' with
    | nil=>simp at h1'
    | cons v vs' =>
     cases vs' with
     | cons _ _=>simp at h1'
     | nil =>
      cases ys with
      | nil=>simp at h2
      | cons y ys =>
       cases ys with
       | cons _ _=>simp at h2
       | nil=>exact h3 0 (by simp)
   ·rw [dif_neg (by simpa using h1')]
    have : vp ys = .tup ys:=by
     cases ys with
     | nil=>rfl
     | cons y ys =>
      cases ys with
      | nil=>exact absurd h2 h1'
      | cons _ _=>rfl
    rw [this]
    exact .tup _ _ (by simpa using h2) fun j hj=>by simpa [Array.getD_eq_getD_getElem?] using h3 j hj
  obtain ⟨ex,hex⟩ : ∃ ex,ex = eL bxs.length nw:=⟨_,rfl⟩
  rw [← hex] at h4 h5
  unfold vZ at hnw
  rw [Bool.and_eq_true] at hnw
  obtain ⟨hnw,hcnt⟩:=hnw
  have hcnt : bxs.length + nw.length≤1000:=of_decide_eq_true hcnt
  have hexd : ex.Nodup:=by
   rw [hex]
   refine List.nodup_append.2 ⟨?_,mP hnd,fun x hx y hy=>?_⟩
   ·exact List.Pairwise.map _ (fun x y h=>by omega) List.nodup_range
   ·obtain ⟨i,_,rfl⟩:=List.mem_map.1 hx
    have:=(List.all_eq_true.1 hnw) y hy
    simp at this;omega
  have hex10 : ∀ b ∈ ex,10000≤b∧b < 1000000:=fun b hb=>by
   rw [hex] at hb
   rcases List.mem_append.1 hb with hb | hb
   ·obtain ⟨i,hi,rfl⟩:=List.mem_map.1 hb
    have:=List.mem_range.1 hi
    omega
   ·have:=(List.all_eq_true.1 hnw) b hb
    simp at this;omega
  have hNB : NB ex:=⟨hexd,hex10,by rw [hex];simp [eL];omega⟩
  have hexi : ∀ i,i < bxs.length→ex[i]? = some (20000 + i):=fun i hi=>by
   rw [hex,eL,List.getElem?_append_left (by simpa using hi)];simp [hi]
  have hext : ∀ k b,trC ex k = some b→bP bxs' k = iF ex σ' (lm σ' b):=fun k b hk=>v7 hNB (uV ex σ') (fun j b hj=>jB (by rw [← h5];simp [hj])) hk
  have hγx : ∀ k g,(GhX ex G' σ' w').γ k = some g→∃ b,trC ex k = some b∧G'.γ b = some g:=fun k g hk=>iz G' hk
  have hbc : ∀ k b cs ty,trC ex k = some b→lm σ' b = .bc cs ty→∃ cs',bP bxs' k = .bc cs' ty:=fun k b cs ty hb hB=>⟨_,by rw [hext k b hb,hB];rfl⟩
  have hbt : ∀ k b n e,trC ex k = some b→lm σ' b = .bt n e→bP bxs' k = .bt n e:=fun k b n e hb hB=>by rw [hext k b hb,hB];rfl
  have hbr : ∀ k b cs v e sz,trC ex k = some b→lm σ' b = .br cs v e sz→∃ cs',bP bxs' k = .br cs' v e sz:=fun k b cs v e sz hb hB=>⟨_,by rw [hext k b hb,hB];rfl⟩
  refine ⟨_,hrun,_,GhX ex G' σ' w',rfl,?_,?_,⟨hs'.fr.os,hs'.fr.tape,hs'.fr.output,hs'.fr.size,fun b hb _=>(hs'.fr.block b hb).2⟩,?_,fun b o hb1 hb2=>?_⟩
  ·rw [← h4]
   exact jf hs' hNB hbc hbt hbr 8 hval
  ·refine ⟨fun b o v hz=>?_,fun k g hk=>?_,fun k cs ty hk hB=>?_,fun k k' g hk hk'=>?_,hs'.st.gl.mono (iW _ _ _ _)⟩
   ·rcases sR hz with hz | ⟨hc,⟨k,cs,ty,h6,h7,h8,h9⟩ | ⟨k,cs,ver,e,sz,h6,h7,h8,h9,h10⟩⟩
    ·exact hs'.st.agree b o v hz
    rotate_left
    ·refine ⟨hc,?_⟩
     obtain ⟨⟨c,hc1,hcs,hce,hle,_,hr⟩,_⟩:=eO hs' h8 h7
     rw [cell_of_row _ b o c e _ hc1] at hc
     obtain ⟨q1,q2⟩:=Array.getElem?_eq_some_iff.1 hc
     have:=(hr (o - G'.β k) (by omega)).2
     rw [show G'.β k + (o - G'.β k) = o by omega,Array.getD_eq_getD_getElem?,Array.getElem?_eq_getElem q1] at this
     simpa [q2] using this
    ·refine ⟨hc,?_⟩
     cases hm : isM ty with
     | true =>
      obtain ⟨_,_,hbx⟩:=hs'.st.box k b h7
      rcases hbx with ⟨cs1,ty1,e1,⟨hm1,_⟩ | ⟨_,es,clk,e2,_⟩⟩ | ⟨_,_,e1,_⟩ | ⟨_,_,_,_,e1,_⟩
      ·rw [h8] at e1;cases e1;rw [hm] at hm1;cases hm1
      ·simp [World.cell?,e2] at hc
      ·rw [h8] at e1;cases e1
      ·rw [h8] at e1;cases e1
     | false =>
     obtain ⟨c,hc1,hr,_,_,hfc⟩:=fL hs' (hs'.st.box k b h7).1 h8 h7 hm
     rw [cell_of_row _ b o c ty _ hc1] at hc
     obtain ⟨q1,q2⟩:=Array.getElem?_eq_some_iff.1 hc
     have:=(fW hr h9).2
     rw [Array.getD_eq_getD_getElem?,Array.getElem?_eq_getElem q1] at this
     simpa [q2] using this
   ·obtain ⟨b,q0,q1⟩:=hγx k g hk
    obtain ⟨p1,p2,p3⟩:=hs'.st.box b g q1
    have q0g:=kh q0
    refine ⟨by omega,p2,?_⟩
    have hne : ∀ k',trB ex k' = none→G'.γ k' = some g→False:=fun k' e1 e2=>by
     have:=hs'.st.inj k' b g e2 q1
     subst this
     rw [nf hNB q0] at e1;cases e1
    rcases p3 with ⟨cs,ty,r1,r2⟩ | ⟨n,e,r1,c,r2,r3,r4,r5,r6⟩ | ⟨cs,ver,e,sz,r1,r2⟩
    ·exact .inl ⟨cs.map (eX ex σ' 4),ty,by rw [hext k b q0,r1];rfl,r2.to _ (fun _=>rfl) (fun _ _ h=>jf hs' hNB hbc hbt hbr 4 h) rfl fun o ho=>gv ho hne⟩
    ·refine .inr (.inl ⟨n,e,by rw [hext k b q0,r1];rfl,c,r2,?_,?_,?_,fun o ho=>gv (r6 o ho) hne⟩)
     all_goals (show _;simp only [GhX,(dt G' q0).2.1];assumption)
    ·exact .inr (.inr ⟨_,ver,e,sz,by rw [hext k b q0,r1];rfl,r2.to (eX ex σ' 4) (fun _ _ h=>jf hs' hNB hbc hbt hbr 4 h) rfl (dt G' q0).2.1 (dt G' q0).2.2 fun o ho=>gv ho hne⟩)
   ·obtain ⟨hkb,hB⟩:=fI hB
    unfold dd at hB
    split at hB
    ·rename_i h20
     cases hj : ex[k - 20000]? with
     | none =>
      rw [List.getD_eq_getElem?_getD,← h5,List.getElem?_map,hj] at hB
      simp at hB
     | some b =>
      rw [List.getD_eq_getElem?_getD,← h5,List.getElem?_map,hj] at hB
      simp only [Option.map_some,Option.getD_some] at hB
      have : ∃ cs',be σ' b = .bc cs' ty:=by
       cases hm : be σ' b <;> rw [hm] at hB <;> simp [iF] at hB
       rename_i cs' ty'
       exact ⟨cs',by rw [hB.2]⟩
      obtain ⟨cs',hm⟩:=this
      obtain ⟨hb1,hb2⟩:=hex10 b (List.mem_of_getElem? hj)
      obtain ⟨g,hg⟩:=hs'.st.real b cs' ty hb1 ((ca hb2).trans hm)
      have hc:=(dt G' (eH hNB hj)).1
      rw [show 20000 + (k - 20000) = k by omega] at hc
      exact ⟨g,hc.trans hg⟩
    ·cases hB
   ·obtain ⟨b,q0,q1⟩:=hγx k g hk
    obtain ⟨b',q2,q3⟩:=hγx k' g hk'
    have:=hs'.st.inj b b' g q1 q3
    subst this
    have e1:=nf hNB q0
    rw [nf hNB q2] at e1;exact (Option.some.inj e1).symm
  ·refine ⟨hs'.step.1.trans (iW _ _ _ _),fun k hk=>?_⟩
   obtain ⟨s1,s2,s3⟩:=hs'.step.2 k hk
   by_cases hx : trC ex k = some k
   ·have hc:=dt G' hx
    have he:=hext _ _ hx
    have hγ : (GhX ex G' σ' w').γ k = G'.γ k:=hc.1
    have hκ : (GhX ex G' σ' w').κ k = G'.κ k:=hc.2.1
    have hβ : (GhX ex G' σ' w').β k = G'.β k:=hc.2.2
    unfold KStep
    rw [hγ,hκ,hβ,he]
    refine ⟨fun cs ty hc=>?_,fun n e hc=>?_,fun cs v e sz hc=>?_⟩
    ·obtain ⟨⟨cs',t1⟩,t2⟩:=s1 cs ty hc
     exact ⟨⟨_,by rw [t1];rfl⟩,t2⟩
    ·obtain ⟨n',t1,t2⟩:=s2 n e hc
     exact ⟨n',by rw [t1];rfl,t2⟩
    ·obtain ⟨cs',v',t1,t2⟩:=s3 cs v e sz hc
     exact ⟨_,v',by rw [t1];rfl,t2⟩
   ·have : bP bxs k = .u:=by
     show lk (dd bxs) k = .u
     unfold lk
     split
     ·rename_i hkb
      refine fZ fun hh=>hx ?_
      have:=eH hNB (hexi (k - 20000) (by omega))
      rwa [show 20000 + (k - 20000) = k by omega] at this
     ·rename_i hkb
      split
      ·have : dd bxs (df k) = .u:=fZ fun hh=>hx (by
        have:=kR (i:=d7 k) hNB (hexi (df k - 20000) (by omega))
        rwa [show 20000 + (df k - 20000) = df k by omega,iD hkb] at this)
       rw [this];rfl
      ·rfl
    exact .u this
  ·have hz1:=hs'.zp b o ⟨hb1,hb2⟩
   show dH ex G' σ' w' b o = G.Z b o
   cases hz2 : G'.Z b o with
   | some v =>
    have e1 : some v = G.Z b o:=hz2.symm.trans hz1
    rw [← e1]
    exact iW _ _ _ _ _ _ _ hz2
   | none =>
    have e1 : none = G.Z b o:=hz2.symm.trans hz1
    rw [← e1]
    exact gv hz2 fun k _ q2=>(hs'.st.box k b q2).2.1 ⟨hb1,hb2⟩
 cases e with
 | normal=>exact key hq
 | ret=>exact key hq
 | _=>exact hq.elim
end
end Go.Proofs.YtmpdocplcgbpkaaGreatDoor

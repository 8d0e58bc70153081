/- K: memory read and written, boxes made, structs and slices built, sound. No program is in sight. K: boxes made and written, structs and slices built, sound. No program is in sight. K: structs and slices built, strings as bytes, sound. No program is in sight. K: append, sound. No program is in sight. K: maps of the call's own, sound. No program is in sight. -/
import Derived.Test.YtmpdocplcgbpkaaGreatDoorZ1
import Derived.Great.BuildSlice
import Derived.Laws.MakeOwn
import Derived.Laws.IdiomStrings
import Derived.Laws.BytesArg
namespace Go.Proofs.YtmpdocplcgbpkaaGreatDoor
set_option linter.unusedSimpArgs false
set_option linter.unusedVariables false
open Go.RowKit
def CRel (G : Gh) (B : Nat→AV) (vs : List Value) (cs : List AV) : Prop:=vs.length = cs.length∧∀ j (h : j < cs.length),VRel G B (vs.getD j undef) cs[j]∧(vs.getD j undef).oneCell' = true
theorem CRel.nil (G : Gh) (B : Nat→AV) : CRel G B [] []:=⟨rfl,fun j h=>by simp at h⟩
theorem CRel.cons {G : Gh} {B : Nat→AV} {v : Value} {x : AV} {vs : List Value} {cs : List AV} (hx : VRel G B v x) (h1 : v.oneCell' = true) (h : CRel G B vs cs) : CRel G B (v :: vs) (x :: cs) :=
 ⟨by simp [h.1],fun j hj=>by
  cases j with
  | zero=>exact ⟨hx,h1⟩
  | succ j=>exact h.2 j (by simpa using hj)⟩
theorem CRel.append {G : Gh} {B : Nat→AV} {vs vs' : List Value} {cs cs' : List AV} (h : CRel G B vs cs) (h' : CRel G B vs' cs') : CRel G B (vs ++ vs') (cs ++ cs') :=
 ⟨by simp [h.1,h'.1],fun j hj=>by
  have e:=h.1
  by_cases hlt : j < cs.length
  ·have:=h.2 j hlt
   rw [List.getElem_append_left hlt]
   simpa [List.getD_eq_getElem?_getD,List.getElem?_append_left (show j < vs.length by omega)] using this
  ·have hj' : j - cs.length < cs'.length:=by simp at hj;omega
   have:=h'.2 (j - cs.length) hj'
   rw [List.getElem_append_right (by omega)]
   simpa [List.getD_eq_getElem?_getD,List.getElem?_append_right (show vs.length≤j by omega),e] using this⟩
theorem CRel.take {G : Gh} {B : Nat→AV} {vs : List Value} {cs : List AV} (h : CRel G B vs cs) (n : Nat) : CRel G B (vs.take n) (cs.take n) :=
 ⟨by simp [h.1],fun j hj=>by
  have hj' : j < n∧j < cs.length:=by simp at hj;omega
  have:=h.2 j hj'.2
  simpa [List.getD_eq_getElem?_getD,List.getElem?_take,hj'.1] using this⟩
theorem CRel.drop {G : Gh} {B : Nat→AV} {vs : List Value} {cs : List AV} (h : CRel G B vs cs) (n : Nat) : CRel G B (vs.drop n) (cs.drop n) :=
 ⟨by simp [h.1],fun j hj=>by
  have hj' : n + j < cs.length:=by simp at hj;omega
  have:=h.2 (n + j) hj'
  simpa [List.getD_eq_getElem?_getD,List.getElem?_drop] using this⟩
theorem CRel.putAt {G : Gh} {B : Nat→AV} {vs us : List Value} {cs xs : List AV} (h : CRel G B vs cs) (h' : CRel G B us xs) (o : Nat) : CRel G B (vs.take o ++ us ++ vs.drop (o + us.length)) (putAt cs o xs):=by
 unfold Go.Proofs.YtmpdocplcgbpkaaGreatDoor.putAt
 rw [h'.1]
 exact ((h.take o).append h').append (h.drop _)
theorem CRel.step {G G' : Gh} {B B' : Nat→AV} (hs : BStep G B G' B') {vs : List Value} {cs : List AV} (h : CRel G B vs cs) : CRel G' B' vs cs:=⟨h.1,fun j hj=>⟨(h.2 j hj).1.step hs,(h.2 j hj).2⟩⟩
theorem eM {cs xs : List AV} {o : Nat} (h : o + xs.length≤cs.length) : (putAt cs o xs).length = cs.length:=by simp [putAt];omega
theorem mi : ∀ {l : List AV},ee l = true→∀ x ∈ l,x.one = true
 | x :: r,h,y,hy=>by
  simp only [ee,Bool.and_eq_true] at h
  rcases List.mem_cons.1 hy with rfl | hy
  ·exact h.1
  ·exact mi h.2 y hy
theorem tI {G : Gh} {B : Nat→AV} {v : Value} {x : AV} (h : VRel G B v x) (h1 : x.one = true) : v.oneCell' = true:=by
 cases x with
 | c x=>rw [cI h];exact h1
 | u=>simp [AV.one] at h1
 | sl cs n o=>obtain ⟨a,cap,b,off,f,rfl,_⟩:=dR h;rfl
 | rf cs o=>obtain ⟨b,off,f,rfl,_⟩:=gk h;rfl
 | agg cs=>simp [AV.one] at h1
 | tup cs=>simp [AV.one] at h1
 | ifc t x=>obtain ⟨v',rfl,_⟩:=dk h;rfl
 | fn f a b=>obtain ⟨va,vb,rfl,_⟩:=g6 h;rfl
 | loc b o=>obtain ⟨g,cs,ty,rfl,_⟩:=ff h;rfl
 | arr b o n e=>obtain ⟨g,cap,cs,ty,rfl,_⟩:=gr h;rfl
 | bc cs ty=>simp [AV.one] at h1
 | bt n e=>simp [AV.one] at h1
 | mp b=>obtain ⟨g,cs,ty,rfl,_⟩:=jm h;rfl
 | ow b off n ver=>obtain ⟨a,cap,cs,v',e,sz,rfl,_⟩:=gj h;rfl
 | lo b off ver=>obtain ⟨g,o,cs,v',e,sz,rfl,_⟩:=iJ h;rfl
 | br cs ver e sz=>simp [AV.one] at h1
 | fo rows=>simp [AV.one] at h1
theorem jA {G : Gh} {B : Nat→AV} {v : Value} {x : AV} (h : VRel G B v x) (h1 : ee (bX x) = true) : CRel G B v.cells.toList (bX x):=by
 have single : x.one = true→CRel G B v.cells.toList [x]:=fun hx=>by
  have h2:=tI h hx
  have : v.cells = #[v]:=by cases v <;> simp [Value.oneCell'] at h2 <;> rfl
  rw [this]
  exact .cons h h2 (.nil _ _)
 cases x with
 | agg cs =>
  obtain ⟨vs,rfl,hs,h2,hp⟩:=fe h
  show CRel G B vs.toList cs
  exact ⟨by simpa using hs,fun j hj=>by simpa [Array.getD_eq_getD_getElem?] using And.intro (hp j hj) (h2 j hj)⟩
 | _=>exact single (by simpa [bX,ee] using h1)
section
variable {E : Env} {o : Oper} {σ : bv} {a : Act} {w : World} {G : Gh}
theorem mc {P : Program} {t : TypeId} {b : Bool} (h : bM P t = some b) : ∃ d,P.underlying t = some d∧d.isRow = b:=by
 unfold bM at h
 cases hu : P.underlying t with
 | none=>simp [hu] at h
 | some d=>simp [hu] at h;exact ⟨d,rfl,by subst h;cases d <;> rfl⟩
theorem sV {t : TypeId} {cs : List AV} {off b base : Nat} {f : Nat→Value} {k : AV→TR} {Goal : List (Nat × AV)→Prop} (hc : ∀ j,j < cs.length→w.cell? ⟨b,base + j,none⟩ = some (f j))
  (hv : ∀ j (h : j < cs.length),VRel G (lm σ) (f j) cs[j]∧(f j).oneCell' = true)
  (hk : ∀ v x,(Instr.loadAt t (.pointer (some ⟨b,base + off,none⟩))).run E.P w = .ok v w→VRel G (lm σ) v x→Snd E.P σ (k x) Goal) : Snd E.P σ (kLd E.P t cs off k) Goal:=by
 unfold kLd
 split
 ·rename_i n hn ha
  refine .need fun hle=>?_
  obtain ⟨d,hu,hd⟩:=mc ha
  have hl : ((List.range n).map fun j=>f (off + j)).length = n:=by simp
  refine hk (.agg ((List.range n).map fun j=>f (off + j)).toArray) _ (run_loadAt_mid w b (base + off) t ((List.range n).map fun j=>f (off + j)) d (fun j v hj=>?_) hu hd (by unfold bZ at hn;rw [hn,hl])) ?_
  ·obtain ⟨h1,h2⟩:=List.getElem?_eq_some_iff.1 hj
   rw [hl] at h1
   rw [Nat.add_assoc,hc _ (by omega),← h2];simp
  ·refine .agg _ _ (by simp;omega) (fun j hj=>?_) fun j hj=>?_
   ·have hj' : j < n:=by simp at hj;omega
    simpa [Array.getD_eq_getD_getElem?,hj'] using (hv (off + j) (by omega)).2
   ·have hj' : j < n:=by simp at hj;omega
    simpa [Array.getD_eq_getD_getElem?,hj'] using (hv (off + j) (by omega)).1
 ·rename_i n hn ha
  refine .need fun hlt=>?_
  obtain ⟨d,hu,hd⟩:=mc ha
  refine hk (f off) _ ?_ ?_
  ·have hagg : (isAgg t).run E.P w = .ok false w:=by
    unfold isAgg
    rw [Sem.run_bind,run_underlying hu w]
    cases d <;> simp_all
   simp [Instr.loadAt,Instr.sureAddr,loadVar,hagg,hc off hlt]
  ·rw [List.getD_eq_getElem?_getD,List.getElem?_eq_getElem hlt]
   exact (hv off hlt).1
 ·exact .fail
theorem fL (h : Sim E σ a w G) {b : Nat} {cs : List AV} {ty : TypeId} (hb : 10000≤b) (hB : lm σ b = .bc cs ty) {g : Nat} (hg : G.γ b = some g) (hm : isM ty = false) :
  ∃ c : Array Value,w.heap[g]? = some (.cells c ty (0,0))∧CRel G (lm σ) (c.toList.take cs.length) cs∧(∀ o,G.Z g o = none)∧¬ E.Pr g∧FitsC c cs:=by
 obtain ⟨_,hpr,h1⟩:=h.st.box b g hg
 rcases h1 with ⟨cs',ty',e,⟨_,c,h2,h3,h4,h5⟩ | ⟨hm',_⟩⟩ | ⟨n,e,h2,_⟩ | ⟨_,_,_,_,h2,_⟩
 ·rw [hB] at e;cases e
  exact ⟨c,h2,⟨by rw [List.length_take];have h31 : cs.length≤c.size:=h3;have e : c.toList.length = c.size:=Array.length_toList ..;omega,fun j hj=>by simpa [Array.getD_eq_getD_getElem?,List.getD_eq_getElem?_getD,List.getElem?_take,hj] using h5 j hj⟩,h4,hpr,h3⟩
 ·rw [hB] at e;cases e;rw [hm] at hm';cases hm'
 ·rw [hB] at h2;cases h2
 ·rw [hB] at h2;cases h2
theorem eO (h : Sim E σ a w G) {b : Nat} {cs : List AV} {v : Nat} {e : TypeId} {sz : Nat} (hB : lm σ b = .br cs v e sz) {g : Nat} (hg : G.γ b = some g) :
  OwnAt E.P G (lm σ) w b g cs e sz∧¬ E.Pr g:=by
 obtain ⟨_,hpr,h1⟩:=h.st.box b g hg
 rcases h1 with ⟨_,_,h2,_⟩ | ⟨_,_,h2,_⟩ | ⟨_,_,_,_,h2,h3⟩
 ·rw [hB] at h2;cases h2
 ·rw [hB] at h2;cases h2
 ·rw [hB] at h2;cases h2;exact ⟨h3,hpr⟩
theorem fW {c : Array Value} {cs : List AV} {B : Nat→AV} (hr : CRel G B (c.toList.take cs.length) cs) {j : Nat} (hj : j < cs.length) : VRel G B (c.getD j undef) cs[j]∧(c.getD j undef).oneCell' = true:=by
 simpa [Array.getD_eq_getD_getElem?,List.getD_eq_getElem?_getD,List.getElem?_take,hj] using hr.2 j hj
theorem ol (h : Sim E σ a w G) {t : TypeId} {x : Operand} {v : AV} (hv : VRel G (lm σ) (a.eval x) v) {k : AV→TR} {Goal : List (Nat × AV)→Prop}
  (hk : ∀ v x',(Instr.loadAt t (a.eval x)).run E.P w = .ok v w→VRel G (lm σ) v x'→Snd E.P σ (k x') Goal) : Snd E.P σ (my E.P t v k) Goal:=by
 unfold my
 split
 ·rename_i b off
  obtain ⟨g,cs,ty,e,h1,h2,h3,hm⟩:=ff hv
  refine .rd ?_
  rw [(fI h2).2]
  obtain ⟨c,hc,hr,_,_,hfc⟩:=fL h h1 h2 h3 hm
  refine sV (w:=w) (G:=G) (b:=g) (base:=0) (f:=fun j=>c.getD j undef) (fun j hj=>?_) (fun j hj=>?_) (fun v x' hr=>?_)
  ·have : j < c.size:=Nat.lt_of_lt_of_le hj hfc
   simp [World.cell?,hc,this]
  ·exact fW hr hj
  ·rw [Nat.zero_add] at hr;rw [e] at hk;exact hk v x' hr
 ·rename_i cs off
  obtain ⟨b,base,f,e,hz,hp⟩:=gk hv
  exact sV (w:=w) (G:=G) (f:=f) (fun j hj=>(h.st.agree _ _ _ (hz j hj)).1) (fun j hj=>⟨.p (hp j hj),(h.st.agree _ _ _ (hz j hj)).2⟩) fun v x' hr=>by rw [e] at hk;exact hk v x' hr
 ·rename_i b off ver
  obtain ⟨g,o',cs,v',e',sz,e,h1,h2,h3,h4⟩:=iJ hv
  refine .rdRow h1 fun cs2 v2 e2 sz2 wr hB2 _=>.need fun hvv=>?_
  rw [h2] at hB2;cases hB2
  obtain ⟨h5,rfl⟩:=h4 hvv
  obtain ⟨⟨c,hc,hsz,_,hle,_,hr⟩,_⟩:=eO h h2 h5
  refine sV (w:=w) (G:=G) (b:=g) (base:=G.β b) (f:=fun j=>c.getD (G.β b + j) undef) (fun j hj=>?_) (fun j hj=>hr j hj) (fun v x' hr=>?_)
  ·have : G.β b + j < c.size:=by omega
   simp [World.cell?,hc,this]
  ·rw [e] at hk;exact hk v x' hr
 ·exact .fail
theorem xc (h : Sim E σ a w G) {t : TypeId} {x : Operand} (ho : o.op = .load t x) : Snd E.P σ (rdo x fun v=>my E.P t v fun y=>ret E.N o y) (d6 E o σ a w) :=
 .rdo h fun v hv=>ol h hv fun v x' hr hx=>bU h (by simp only [execOp,ho,Sem.run_bind,hr];rfl) hx
theorem u6 (h : Sim E σ a w G) {s : TypeId} {x : Operand} {i : Nat} (ho : o.op = .field s x i) : Snd E.P σ (rdo x fun v=>ph E.P E.N o s v i) (d6 E o σ a w) :=
 .rdo h fun v hv=>by
  unfold ph
  split
  ·rename_i off ft cs hf
   obtain ⟨fs,hu,fl,h1,h2,h3⟩:=ox hf
   obtain ⟨vs,e,hs,ho1,hp⟩:=fe hv
   unfold kLd
   split
   ·rename_i n hn ha
    refine .need fun hle=>?_
    obtain ⟨d,hud,hd⟩:=mc ha
    have hs':=dp (P:=E.P) (w:=w) hn
    have hagg : (isAgg ft).run E.P w = .ok true w:=by
     unfold isAgg
     rw [Sem.run_bind,run_underlying hud w]
     cases d <;> simp_all
    refine bU h (v:=.agg (vs.extract off (off + n))) ?_ (.agg _ _ (by simp [hs];omega) (fun j hj=>?_) fun j hj=>?_)
    ·simp [execOp,ho,e,Instr.field,run_underlying hu,h1,h2,h3,asAgg,part,hagg,hs']
    ·have hj' : j < n:=by simp at hj;omega
     have:=ho1 (off + j) (by omega)
     have h4 : off + j < vs.size:=by omega
     have h5 : j < min (off + n) vs.size - off:=by omega
     simpa [Array.getD_eq_getD_getElem?,Array.getElem?_extract,h5,h4] using this
    ·have hj' : j < n:=by simp at hj;omega
     have:=hp (off + j) (by omega)
     have h4 : off + j < vs.size:=by omega
     have h5 : j < min (off + n) vs.size - off:=by omega
     simpa [Array.getD_eq_getD_getElem?,Array.getElem?_extract,h5,h4] using this
   ·rename_i n hn ha
    refine .need fun hlt=>?_
    obtain ⟨d,hud,hd⟩:=mc ha
    have hagg : (isAgg ft).run E.P w = .ok false w:=by
     unfold isAgg
     rw [Sem.run_bind,run_underlying hud w]
     cases d <;> simp_all
    have:=hp off hlt
    generalize hgv : vs.getD off undef = z at this
    have hg : vs[off]? = some z:=by
     rw [← hgv,Array.getD_eq_getD_getElem?,Array.getElem?_eq_getElem (by omega)];rfl
    refine bU h (v:=z) ?_ ?_
    ·simp [execOp,ho,e,Instr.field,run_underlying hu,h1,h2,h3,asAgg,part,hagg,hg]
    ·rw [List.getD_eq_getElem?_getD,List.getElem?_eq_getElem hlt];exact this
   ·exact .fail
  ·exact .fail
end
end Go.Proofs.YtmpdocplcgbpkaaGreatDoor
namespace Go.Proofs.YtmpdocplcgbpkaaGreatDoor
set_option linter.unusedSimpArgs false
set_option linter.unusedVariables false
open Go.RowKit
section
variable {E : Env} {o : Oper} {σ : bv} {a : Act} {w : World} {G : Gh}
theorem iX (h : Sim E σ a w G) {b o : Nat} {v : Value} (hz : G.Z b o = some v) : b < w.heap.size:=World.block_lt_of_cell? w ⟨b,o,none⟩ (h.st.agree _ _ _ hz).1
theorem gg (h : Sim E σ a w G) (o : Nat) : G.Z w.heap.size o = none:=by
 cases hz : G.Z w.heap.size o with
 | none=>rfl
 | some v=>exact absurd (iX h hz) (Nat.lt_irrefl _)
theorem ew (h : Sim E σ a w G) {k g : Nat} (hg : G.γ k = some g) : g < w.heap.size:=by
 exact (h.st.box k g hg).2.2.lt
theorem kd (h : Sim E σ a w G) {b : Nat} (hb : w.heap.size≤b) : ¬ E.Pr b:=fun hp=>by
 have:=(h.fr.block b hp).1
 have:=h.fr.size
 omega
theorem jy (Pr : Nat→Prop) (w : World) (ob : Obj) : WStep Pr w (w.alloc ob):=⟨rfl,rfl,rfl,by simp,fun b _ hb=>heap_alloc_old w ob hb⟩
theorem FitsC.of_rel {B : Nat→AV} {c : Array Value} {cs : List AV} (hc : CRel G B c.toList cs) : CRel G B (c.toList.take cs.length) cs∧FitsC c cs:=by
 have hl : c.size = cs.length:=by have:=hc.1;simpa using this
 exact ⟨by rw [List.take_of_length_le (by simp;omega)];exact hc,by unfold FitsC;omega⟩
theorem Sim.newBoxV (h : Sim E σ a w G) {d : Nat} (hd : d < E.N∧d < 10000) (hk : be σ (10000 + d) = .u) {c : Array Value} {cs : List AV} (ty : TypeId) (hc : CRel G (lm σ) (c.toList.take cs.length) cs) (hfc : FitsC c cs) (hty : isM ty = false) (x : AV) (v : Value)
  (hxv : ∀ (G' : Gh) (B' : Nat→AV),B' (10000 + d) = .bc cs ty→G'.γ (10000 + d) = some w.heap.size→VRel G' B' v x) :
  ∃ G',Sim E (ck σ [(10000 + d,.bc cs ty),(d,x)]) (a.put (some d) v) (w.alloc (.cells c ty)) G':=by
 let G' : Gh:={ Z:=G.Z,γ:=fun k=>if k = 10000 + d then some w.heap.size else G.γ k,κ:=G.κ,β:=G.β }
 have hm : ∀ k,be (ck σ [(10000 + d,.bc cs ty),(d,x)]) k = if d = k then x else if 10000 + d = k then .bc cs ty else be σ k:=fun k=>by
  simp only [ck,bO]
 have hbox : ∀ k,10000≤k→lm (ck σ [(10000 + d,.bc cs ty),(d,x)]) k = if 10000 + d = k then .bc cs ty else lm σ k:=fA (fun k hk _=>by rw [hm,if_neg (by omega)]) (by omega) (by rw [hk];rfl) rfl
 have hk : lm σ (10000 + d) = .u:=(ca (by omega)).trans hk
 have hs : BStep G (lm σ) G' (lm (ck σ [(10000 + d,.bc cs ty),(d,x)])):=⟨.refl _,fun k hk'=>by
  by_cases e : k = 10000 + d
  ·subst e;exact .u hk
  ·have e1 : G'.γ k = G.γ k:=if_neg e
   exact .same (by rw [hbox k hk',if_neg (fun h=>e h.symm)]) e1 rfl rfl⟩
 refine ⟨G',h.put (dst:=some d) (x:=x) (fun _ e=>by cases e;exact hd) hs ⟨fun b o v' hz=>?_,fun k g hg=>?_,fun k cs' ty' hk' hB=>?_,fun k k' g h1 h2=>?_,h.st.gl⟩ (jy _ _ _) (fun _ _ _=>rfl) ?_ fun t ht=>?_⟩
 ·have:=h.st.agree b o v' hz
  exact ⟨(World.cell?_alloc_lt w _ ⟨b,o,none⟩ (iX h hz)).trans this.1,this.2⟩
 ·by_cases e : k = 10000 + d
  ·subst e
   have e2 : some w.heap.size = some g:=(if_pos rfl).symm.trans hg
   cases e2
   refine ⟨by omega,kd h (Nat.le_refl _),.inl ⟨cs,ty,by rw [hbox _ (by omega),if_pos rfl],.inl ⟨hty,c,heap_alloc_new w _,hfc,fun o=>gg h o,fun j hj=>?_⟩⟩⟩
   have:=fW hc hj
   exact ⟨this.1.step hs,this.2⟩
  ·have hg' : G.γ k = some g:=(if_neg e).symm.trans hg
   obtain ⟨h1,h2,h3⟩:=h.st.box k g hg'
   exact ⟨h1,h2,h3.step hs (by rw [hbox k h1,if_neg (fun h=>e h.symm)]) rfl rfl (heap_alloc_old w _ (ew h hg')) fun _=>rfl⟩
 ·by_cases e : k = 10000 + d
  ·exact ⟨w.heap.size,if_pos e⟩
  ·rw [hbox k hk',if_neg (fun h=>e h.symm)] at hB
   obtain ⟨g,hg⟩:=h.st.real k cs' ty' hk' hB
   exact ⟨g,(if_neg e).trans hg⟩
 ·by_cases e : k = 10000 + d <;> by_cases e' : k' = 10000 + d
  ·omega
  ·have e1 : some w.heap.size = some g:=(if_pos e).symm.trans h1
   have e2 : G.γ k' = some g:=(if_neg e').symm.trans h2
   cases e1;exact absurd (ew h e2) (Nat.lt_irrefl _)
  ·have e1 : some w.heap.size = some g:=(if_pos e').symm.trans h2
   have e2 : G.γ k = some g:=(if_neg e).symm.trans h1
   cases e1;exact absurd (ew h e2) (Nat.lt_irrefl _)
  ·exact h.st.inj k k' g ((if_neg e).symm.trans h1) ((if_neg e').symm.trans h2)
 ·exact hxv _ _ (by rw [hbox _ (by omega),if_pos rfl]) (if_pos rfl)
 ·rw [hm]
  by_cases e : d = t
  ·subst e;simp
  ·rw [if_neg e,if_neg (by omega),if_neg (by simpa using fun e'=>e e'.symm)]
theorem Sim.newBlockRow (h : Sim E σ a w G) {d : Nat} (hd : d < E.N∧d < 10000) (hk : be σ (10000 + d) = .u) {c : Array Value} {cs : List AV} {e sz n : Nat} (hc : CRel G (lm σ) c.toList cs) (hsz : sz = E.P.cellsOf e) (hl : cs.length = n * sz) :
  ∃ G',Sim E (ck σ [(10000 + d,.br cs 0 e sz),(d,.ow (10000 + d) 0 n 0)]) (a.put (some d) (.slice (some ⟨w.heap.size,0,none⟩) n n)) (w.alloc (.cells c e)) G':=by
 let G' : Gh:={ Z:=G.Z,γ:=fun k=>if k = 10000 + d then some w.heap.size else G.γ k,κ:=fun k=>if k = 10000 + d then cs.length else G.κ k,β:=fun k=>if k = 10000 + d then 0 else G.β k }
 have hcl : c.size = cs.length:=by have:=hc.1;simpa using this
 have hm : ∀ k,be (ck σ [(10000 + d,.br cs 0 e sz),(d,.ow (10000 + d) 0 n 0)]) k = if d = k then .ow (10000 + d) 0 n 0 else if 10000 + d = k then .br cs 0 e sz else be σ k:=fun k=>by
  simp only [ck,bO]
 have hbox : ∀ k,10000≤k→lm (ck σ [(10000 + d,.br cs 0 e sz),(d,.ow (10000 + d) 0 n 0)]) k = if 10000 + d = k then .br cs 0 e sz else lm σ k:=fA (fun k hk _=>by rw [hm,if_neg (by omega)]) (by omega) (by rw [hk];rfl) rfl
 have hk : lm σ (10000 + d) = .u:=(ca (by omega)).trans hk
 have hs : BStep G (lm σ) G' (lm (ck σ [(10000 + d,.br cs 0 e sz),(d,.ow (10000 + d) 0 n 0)])):=⟨.refl _,fun k hk'=>by
  by_cases e1 : k = 10000 + d
  ·subst e1;exact .u hk
  ·exact .same (by rw [hbox k hk',if_neg (fun h=>e1 h.symm)]) (if_neg e1) (if_neg e1) (if_neg e1)⟩
 refine ⟨G',h.put (dst:=some d) (x:=.ow (10000 + d) 0 n 0) (fun _ e=>by cases e;exact hd) hs ⟨fun b o v' hz=>?_,fun k g hg=>?_,fun k cs' ty' hk' hB=>?_,fun k k' g h1 h2=>?_,h.st.gl⟩ (jy _ _ _) (fun _ _ _=>rfl) ?_ fun t ht=>?_⟩
 ·have:=h.st.agree b o v' hz
  exact ⟨(World.cell?_alloc_lt w _ ⟨b,o,none⟩ (iX h hz)).trans this.1,this.2⟩
 ·by_cases e1 : k = 10000 + d
  ·subst e1
   have e2 : some w.heap.size = some g:=(if_pos rfl).symm.trans hg
   cases e2
   have hκ : G'.κ (10000 + d) = cs.length:=if_pos rfl
   have hβ : G'.β (10000 + d) = 0:=if_pos rfl
   refine ⟨by omega,kd h (Nat.le_refl _),.inr (.inr ⟨cs,0,e,sz,by rw [hbox _ (by omega),if_pos rfl],c,heap_alloc_new w _,by rw [hκ,hβ];omega,hsz,by rw [hκ];exact Nat.le_refl _,fun o=>gg h o,fun j hj=>?_⟩)⟩
   rw [hβ,Nat.zero_add]
   have:=hc.2 j hj
   have e3 : c.toList.getD j undef = c.getD j undef:=by simp [Array.getD_eq_getD_getElem?]
   rw [e3] at this
   exact ⟨this.1.step hs,this.2⟩
  ·have hg' : G.γ k = some g:=(if_neg e1).symm.trans hg
   obtain ⟨h1,h2,h3⟩:=h.st.box k g hg'
   exact ⟨h1,h2,h3.step hs (by rw [hbox k h1,if_neg (fun h=>e1 h.symm)]) (if_neg e1) (if_neg e1) (heap_alloc_old w _ (ew h hg')) fun _=>rfl⟩
 ·rw [hbox k hk'] at hB
  by_cases e1 : 10000 + d = k
  ·rw [if_pos e1] at hB;cases hB
  ·rw [if_neg e1] at hB
   obtain ⟨g,hg⟩:=h.st.real k cs' ty' hk' hB
   exact ⟨g,(if_neg (fun h=>e1 h.symm)).trans hg⟩
 ·by_cases e1 : k = 10000 + d <;> by_cases e1' : k' = 10000 + d
  ·omega
  ·have q1 : some w.heap.size = some g:=(if_pos e1).symm.trans h1
   have q2 : G.γ k' = some g:=(if_neg e1').symm.trans h2
   cases q1;exact absurd (ew h q2) (Nat.lt_irrefl _)
  ·have q1 : some w.heap.size = some g:=(if_pos e1').symm.trans h2
   have q2 : G.γ k = some g:=(if_neg e1).symm.trans h1
   cases q1;exact absurd (ew h q2) (Nat.lt_irrefl _)
  ·exact h.st.inj k k' g ((if_neg e1).symm.trans h1) ((if_neg e1').symm.trans h2)
 ·refine .ow _ n n (10000 + d) 0 0 cs 0 e sz (by omega) (by rw [hbox _ (by omega),if_pos rfl]) (Nat.le_refl _) (fun e=>by cases e) (Nat.le_refl _) fun _=>⟨fun hh=>?_,fun g hg=>?_⟩
  ·have q : some w.heap.size = none:=(if_pos rfl).symm.trans hh
   cases q
  ·have q : some w.heap.size = some g:=(if_pos rfl).symm.trans hg
   cases q
   have hκ : G'.κ (10000 + d) = cs.length:=if_pos rfl
   have hβ : G'.β (10000 + d) = 0:=if_pos rfl
   exact ⟨by rw [hκ,Nat.zero_add,hl],.inr (by rw [hβ])⟩
 ·rw [hm]
  by_cases e1 : d = t
  ·subst e1;simp
  ·rw [if_neg e1,if_neg (by omega),if_neg (by simpa using fun e'=>e1 e'.symm)]
theorem Sim.newBox (h : Sim E σ a w G) {d : Nat} (hd : d < E.N∧d < 10000) (hk : be σ (10000 + d) = .u) {c : Array Value} {cs : List AV} (ty : TypeId) (hc : CRel G (lm σ) c.toList cs) (hty : isM ty = false) :
  ∃ G',Sim E (ck σ [(10000 + d,.bc cs ty),(d,.loc (10000 + d) 0)]) (a.put (some d) (.pointer (some ⟨w.heap.size,0,none⟩))) (w.alloc (.cells c ty)) G' :=
 h.newBoxV hd hk ty (FitsC.of_rel hc).1 (FitsC.of_rel hc).2 hty _ _ fun G' B' hB hg=>.loc (10000 + d) 0 w.heap.size cs ty (by omega) hB hg hty
theorem jQ {P : Program} {t : TypeId} {z : List Value} (h : bw P t = some z) : ∃ i v,P.info? t = some i∧i.zero = some v∧v.cells.toList = z:=by
 unfold bw at h
 cases hi : P.info? t with
 | none=>simp [hi] at h
 | some i =>
  simp only [hi,Option.bind_some,Option.map_eq_some_iff] at h
  obtain ⟨v,h1,h2⟩:=h
  exact ⟨i,v,rfl,h1,h2⟩
theorem nq {G : Gh} {B : Nat→AV} {z : List Value} (h1 : ee (z.map ofV) = true) : CRel G B z (z.map ofV):=by
 refine ⟨by simp,fun j hj=>?_⟩
 have hj' : j < z.length:=by simpa using hj
 have hr : VRel G B z[j] (ofV z[j]):=.p (tG _ _)
 have:=mi h1 (ofV z[j]) (List.mem_map.2 ⟨z[j],by simp,rfl⟩)
 simpa [List.getD_eq_getElem?_getD,hj'] using And.intro hr (tI hr this)
theorem u2 (h : Sim E σ a w G) {t : TypeId} (ho : o.op = .alloc t) : Snd E.P σ (o8 E.P E.N o t) (d6 E o σ a w):=by
 unfold o8
 split
 ·rename_i d z hd hz
  refine .need fun hdd=>.rd ?_
  split
  ·rename_i hk
   refine .need fun ⟨h1,hty⟩=>.done fun Q=>?_
   obtain ⟨i,v,hi,hiz,hv⟩:=jQ hz
   have hdd' : d < E.N∧d < 10000:=by unfold c9 at hdd;rw [hd] at hdd;exact hdd
   obtain ⟨G',hG⟩:=h.newBox hdd' hk (c:=v.cells) t (by rw [hv];exact nq h1) hty
   unfold Oper.wp
   have : (execOp a.eval o).run E.P w = .ok (.value (.pointer (some ⟨w.heap.size,0,none⟩))) (w.alloc (.cells v.cells t)):=by
    simp [execOp,ho,Instr.alloc,zeroValue,typeInfo,hi,hiz,newVar,newRow]
   rw [this,Oper.upon,hd]
   exact ⟨G',hG⟩
  ·exact .fail
 ·exact .fail
theorem zt (h : Sim E σ a w G) {t : TypeId} {x : Operand} (ho : o.op = .box t x) : Snd E.P σ (rdo x fun v=>yt E.N o t v) (d6 E o σ a w) :=
 .rdo h fun v hv=>by
  unfold yt
  split
  ·rename_i d hd
   refine .need fun hdd=>.rd ?_
   split
   ·rename_i hk
    refine .need fun ⟨h1,hty⟩=>.done fun Q=>?_
    have hdd' : d < E.N∧d < 10000:=by unfold c9 at hdd;rw [hd] at hdd;exact hdd
    obtain ⟨G',hG⟩:=h.newBox hdd' hk (c:=(a.eval x).cells) t (jA hv h1) hty
    unfold Oper.wp
    have : (execOp a.eval o).run E.P w = .ok (.value (.pointer (some ⟨w.heap.size,0,none⟩))) (w.alloc (.cells (a.eval x).cells t)):=by
     simp [execOp,ho,Instr.box,newVar,newRow]
    rw [this,Oper.upon,hd]
    exact ⟨G',hG⟩
   ·exact .fail
  ·exact .fail
theorem Sim.writeBox (h : Sim E σ a w G) {b g : Nat} {cs : List AV} {ty : TypeId} (hb : 10000≤b) (hB : lm σ b = .bc cs ty) (hg : G.γ b = some g) {c : Array Value} {cs' : List AV} (hc : CRel G (lm σ) (c.toList.take cs'.length) cs') (hfc : FitsC c cs') (hty : isM ty = false)
  (hd : c9 E.N o) : ∃ G',Sim E (ck σ ((b,.bc cs' ty) :: dn o .u)) (a.put o.dst undef) (w.setRow g c) G':=by
 obtain ⟨c0,hc0,_,hz0,hpr,_⟩:=fL h hb hB hg hty
 have hm : ∀ k,be (ck σ ((b,.bc cs' ty) :: dn o .u)) k = if some k = o.dst then .u else if b = k then .bc cs' ty else be σ k:=fun k=>by
  show be (ck (cC σ b _) (dn o .u)) k = _
  rw [fq,bO]
 have hbox : ∀ k,10000≤k→lm (ck σ ((b,.bc cs' ty) :: dn o .u)) k = if b = k then .bc cs' ty else lm σ k:=fA (fun k hk _=>by
  rw [hm,if_neg (fun e=>by have h2 : k < 10000:=(gi hd k e.symm).2;omega)]) (fI hB).1 (by rw [(fI hB).2];rfl) rfl
 have hs : BStep G (lm σ) G (lm (ck σ ((b,.bc cs' ty) :: dn o .u))):=⟨.refl _,fun k hk=>by
  rw [hbox k hk]
  by_cases e : b = k
  ·subst e;rw [if_pos rfl];exact .bc hB rfl rfl
  ·rw [if_neg e];exact .same rfl rfl rfl rfl⟩
 refine ⟨G,h.put (x:=.u) (gi hd) hs ⟨fun b' o' v hz=>?_,fun k g' hg'=>?_,fun k cs'' ty' hk hB'=>?_,h.st.inj,h.st.gl⟩ ⟨rfl,rfl,rfl,by simp [World.setRow],fun b' hb' _=>setRow_other w g b' _ (fun e=>hpr (e ▸ hb'))⟩ (fun _ _ _=>rfl) (.p (.u _)) fun t ht=>?_⟩
 ·have:=h.st.agree b' o' v hz
  refine ⟨(World.cell?_of_block (a:=⟨b',o',none⟩) (setRow_other w g b' _ fun e=>?_)).trans this.1,this.2⟩
  subst e;rw [hz0] at hz;cases hz
 ·obtain ⟨h1,h2,h3⟩:=h.st.box k g' hg'
  by_cases e : b = k
  ·subst e
   rw [hg] at hg';cases hg'
   refine ⟨h1,h2,.inl ⟨cs',ty,by rw [hbox _ h1,if_pos rfl],.inl ⟨hty,c,setRow_heap w g c0 _ ty _ hc0,hfc,hz0,fun j hj=>?_⟩⟩⟩
   have:=fW hc hj
   exact ⟨this.1.step hs,this.2⟩
  ·exact ⟨h1,h2,h3.step hs (by rw [hbox k h1,if_neg e]) rfl rfl (setRow_other w g g' _ fun e'=>e (h.st.inj b k g hg (e' ▸ hg'))) fun _=>rfl⟩
 ·rw [hbox k hk] at hB'
  by_cases e : b = k
  ·subst e;exact ⟨g,hg⟩
  ·rw [if_neg e] at hB';exact h.st.real k cs'' ty' hk hB'
 ·rw [hm]
  by_cases e : some t = o.dst
  ·rw [if_pos e,if_pos e]
  ·rw [if_neg e,if_neg e,if_neg (by omega)]
theorem Sim.writeRow (h : Sim E σ a w G) {b g : Nat} {cs : List AV} {v : Nat} {e : TypeId} {sz : Nat} {wr : List AV→Nat→Nat × AV} (hb : 10000≤b) (hB : lm σ b = .br cs v e sz) (hwr : nE σ b e sz wr) (hg : G.γ b = some g) {c : Array Value} {cs' : List AV} (hsz : c.size = G.β b + G.κ b) (hl : cs'.length≤G.κ b)
  (hc : ∀ j (h : j < cs'.length),VRel G (lm σ) (c.getD (G.β b + j) undef) cs'[j]∧(c.getD (G.β b + j) undef).oneCell' = true)
  (hd : c9 E.N o) : ∃ G',Sim E (ck σ (wr cs' v :: dn o .u)) (a.put o.dst undef) (w.setRow g c) G':=by
 obtain ⟨⟨c0,hc0,_,hce,_,hz0,_⟩,hpr⟩:=eO h hB hg
 obtain ⟨hm,hnew,hoth⟩:=hwr cs' v (dn o .u) (fun p hp=>by
  unfold dn at hp
  cases hdst : o.dst with
  | none=>rw [hdst] at hp;simp at hp
  | some d=>rw [hdst] at hp;simp at hp;subst hp;exact (gi hd d hdst).2)
 generalize ck σ (wr cs' v :: dn o .u) = σ' at *
 have hs : BStep G (lm σ) G (lm σ'):=⟨.refl _,fun k hk=>by
  by_cases e1 : k = b
  ·subst e1;exact .br hB hnew (.inr ⟨rfl,rfl,rfl,rfl⟩)
  ·rcases hoth k hk e1 with e2 | ⟨e2,_⟩
   ·exact .same e2 rfl rfl rfl
   ·exact .fo e2⟩
 refine ⟨G,h.put (x:=.u) (gi hd) hs ⟨fun b' o' v' hz=>?_,fun k g' hg'=>?_,fun k cs'' ty' hk hB'=>?_,h.st.inj,h.st.gl⟩ ⟨rfl,rfl,rfl,by simp [World.setRow],fun b' hb' _=>setRow_other w g b' _ (fun e=>hpr (e ▸ hb'))⟩ (fun _ _ _=>rfl) (.p (.u _)) fun t ht=>?_⟩
 ·have:=h.st.agree b' o' v' hz
  refine ⟨(World.cell?_of_block (a:=⟨b',o',none⟩) (setRow_other w g b' _ fun e=>?_)).trans this.1,this.2⟩
  subst e;rw [hz0] at hz;cases hz
 ·obtain ⟨h1,h2,h3⟩:=h.st.box k g' hg'
  by_cases e1 : k = b
  ·subst e1
   rw [hg] at hg';cases hg'
   refine ⟨h1,h2,.inr (.inr ⟨cs',v,e,sz,hnew,c,setRow_heap w g c0 _ e _ hc0,hsz,hce,hl,hz0,fun j hj=>⟨(hc j hj).1.step hs,(hc j hj).2⟩⟩)⟩
  ·rcases hoth k h1 e1 with e2 | ⟨e2,_⟩
   ·exact ⟨h1,h2,h3.step hs e2 rfl rfl (setRow_other w g g' _ fun e'=>e1 (h.st.inj k b g (e' ▸ hg') hg)) fun _=>rfl⟩
   ·exact (h3.not_fo e2).elim
 ·by_cases e1 : k = b
  ·subst e1;rw [hnew] at hB';cases hB'
  ·rcases hoth k hk e1 with e2 | ⟨_,e2⟩
   ·rw [e2] at hB';exact h.st.real k cs'' ty' hk hB'
   ·rw [hB'] at e2;cases e2
 ·rw [hm t ht,fq]
theorem xl {α : Type} (L V : List α) {off n : Nat} (h : off + V.length≤n) (hn : n≤L.length) : (L.take off ++ V ++ L.drop (off + V.length)).take n = (L.take n).take off ++ V ++ (L.take n).drop (off + V.length):=by
 apply List.ext_getElem?
 intro i
 simp only [List.getElem?_take,List.getElem?_append,List.length_append,List.length_take,List.getElem?_drop]
 by_cases h1 : i < off
 ·simp [h1,show i < n by omega,show i < min off L.length by omega,show i < min off L.length + V.length by omega,show min off (min n L.length) = off by omega,show i < off + V.length by omega]
 ·by_cases h2 : i < off + V.length
  ·simp [show i < n by omega,show ¬ i < min off L.length by omega,show i < min off L.length + V.length by omega,show min off (min n L.length) = off by omega,h2,show min off L.length = off by omega,h1]
  ·by_cases h3 : i < n
   ·simp [h3,show ¬ i < min off L.length + V.length by omega,show min off (min n L.length) = off by omega,h2,show min off L.length = off by omega,show off + V.length + (i - (off + V.length)) < n by omega]
   ·simp [h3,show min off (min n L.length) = off by omega,h2,show ¬ (off + V.length + (i - (off + V.length)) < n) by omega]
theorem FitsC.put {c : Array Value} {cs xs : List AV} (h : FitsC c cs) {G : Gh} {B : Nat→AV} {us : List Value} (hu : CRel G B us xs) {off : Nat} (hle : off + us.length≤cs.length) : FitsC (c.toList.take off ++ us ++ c.toList.drop (off + us.length)).toArray (putAt cs off xs):=by
 have h0 : cs.length≤c.size:=h
 have hux:=hu.1
 unfold FitsC
 rw [eM (by omega)];simp;omega
theorem vf (h : Sim E σ a w G) {t : TypeId} {p x : Operand} (ho : o.op = .store t p x) : Snd E.P σ (rdo p fun b=>rdo x fun v=>pp E.P E.N o t b v) (d6 E o σ a w) :=
 .rdo h fun pv hp=>.rdo h fun v hv=>by
  unfold pp
  split
  ·rename_i b off
   refine .rd ?_
   split
   ·rename_i cs ty hB
    refine .need fun ⟨h1,h2,h3,hd⟩=>.done fun Q=>?_
    obtain ⟨g,_,ty2,e,hb,hB2,hg,hm⟩:=ff hp
    have hB3:=(fI hB2).2
    rw [hB] at hB3;cases hB3
    have hB:=hB2
    obtain ⟨c0,hc0,hr0,_,_,hf0⟩:=fL h hb hB hg hm
    have hr:=jA hv h3
    have hlen:=hr.1
    have hlen0 : cs.length≤c0.size:=hf0
    have hst:=run_storeCells_at E.P g off ty (a.eval x).cells.toList 0 c0 w hc0 (by simp at hlen hlen0 ⊢;omega) (fun u hu=>by
     obtain ⟨j,hj,rfl⟩:=List.getElem_of_mem hu
     have:=(hr.2 j (by omega)).2
     rw [List.getD_eq_getElem?_getD,List.getElem?_eq_getElem hj] at this
     exact this)
    obtain ⟨G',hG⟩:=h.writeBox (o:=o) (c:=(c0.toList.take off ++ (a.eval x).cells.toList ++ c0.toList.drop (off + (a.eval x).cells.toList.length)).toArray) hb hB hg (by
     have hp:=hr0.putAt hr off
     rw [eM h2]
     rw [← xl _ _ (by omega) (by simpa using hlen0)] at hp
     exact hp) (hf0.put hr (by omega)) hm hd
    unfold Oper.wp
    have hs:=dp (P:=E.P) (w:=w) h1
    have : (execOp a.eval o).run E.P w = .ok .skip (w.setRow g (c0.toList.take off ++ (a.eval x).cells.toList ++ c0.toList.drop (off + (a.eval x).cells.toList.length)).toArray):=by
     simp only [Nat.add_zero] at hst
     have hsz : (a.eval x).cells.size = (bX v).length:=by simpa using hlen
     simp [execOp,ho,e,Instr.storeAt,Instr.sureAddr,storeVar,hs,hsz,hst]
    rw [this]
    exact ⟨G',hG⟩
   ·exact .fail
  ·rename_i b off vn
   obtain ⟨g,o',cs,v',e',sz,e,hb,hB,hvv,hk⟩:=iJ hp
   refine .rdRow hb fun cs2 v2 e2 sz2 wr hB2 hwr=>?_
   ·rw [hB] at hB2;cases hB2
    refine .need fun ⟨h0,h1,h2,h3,hd⟩=>.done fun Q=>?_
    obtain ⟨hg,rfl⟩:=hk h0
    obtain ⟨⟨c0,hc0,hsz0,hce,hle0,hz0,hr0⟩,_⟩:=eO h hB hg
    have hr:=jA hv h3
    have hlen:=hr.1
    have hone : ∀ u ∈ (a.eval x).cells.toList,u.oneCell' = true:=fun u hu=>by
     obtain ⟨j,hj,rfl⟩:=List.getElem_of_mem hu
     have:=(hr.2 j (by omega)).2
     rw [List.getD_eq_getElem?_getD,List.getElem?_eq_getElem hj] at this
     exact this
    have hst:=run_storeCells_at E.P g (G.β b + off) e' (a.eval x).cells.toList 0 c0 w hc0 (by simp at hlen ⊢;omega) hone
    obtain ⟨G',hG⟩:=h.writeRow (o:=o) (c:=(c0.toList.take (G.β b + off) ++ (a.eval x).cells.toList ++ c0.toList.drop (G.β b + off + (a.eval x).cells.toList.length)).toArray) (cs':=putAt cs off (bX v)) hb hB hwr hg (by
      have e1 : c0.toList.length = c0.size:=Array.length_toList ..
      simp only [List.size_toArray,List.length_append,List.length_take,List.length_drop];omega) (by rw [eM h2];exact hle0) (fun j hj=>by
     rw [eM h2] at hj
     have e1 : c0.toList.length = c0.size:=Array.length_toList ..
     have key : (c0.toList.take (G.β b + off) ++ (a.eval x).cells.toList ++ c0.toList.drop (G.β b + off + (a.eval x).cells.toList.length)).toArray.getD (G.β b + j) undef =
       if j < off then c0.getD (G.β b + j) undef else if j < off + (bX v).length then (a.eval x).cells.toList.getD (j - off) undef else c0.getD (G.β b + j) undef:=by
      simp only [Array.getD_eq_getD_getElem?,List.getElem?_toArray,List.getElem?_append,List.length_append,List.length_take,List.getElem?_take,List.getElem?_drop,List.getD_eq_getElem?_getD]
      by_cases q1 : j < off
      ·simp only [q1,if_true,show G.β b + j < min (G.β b + off) c0.toList.length + (a.eval x).cells.toList.length by omega,show G.β b + j < min (G.β b + off) c0.toList.length by omega,show G.β b + j < G.β b + off by omega]
       simp
      ·by_cases q2 : j < off + (bX v).length
       ·simp only [q1,q2,if_true,if_false,show G.β b + j < min (G.β b + off) c0.toList.length + (a.eval x).cells.toList.length by omega,show ¬ G.β b + j < min (G.β b + off) c0.toList.length by omega,show G.β b + j - min (G.β b + off) c0.toList.length = j - off by omega]
       ·simp only [q1,q2,if_false,show ¬ G.β b + j < min (G.β b + off) c0.toList.length + (a.eval x).cells.toList.length by omega,show G.β b + off + (a.eval x).cells.toList.length + (G.β b + j - (min (G.β b + off) c0.toList.length + (a.eval x).cells.toList.length)) = G.β b + j by omega]
        simp
     rw [key]
     have hj2 : j < (putAt cs off (bX v)).length:=by rw [eM h2];exact hj
     have key2 : (putAt cs off (bX v))[j] = if q1 : j < off then cs[j] else if q2 : j < off + (bX v).length then (bX v)[j - off]'(by omega) else cs[j]:=by
      have e3 : (putAt cs off (bX v))[j]? = some (putAt cs off (bX v))[j]:=List.getElem?_eq_getElem hj2
      have e4 : (putAt cs off (bX v))[j]? = some (if q1 : j < off then cs[j] else if q2 : j < off + (bX v).length then (bX v)[j - off]'(by omega) else cs[j]):=by
       unfold putAt
       simp only [List.getElem?_append,List.length_append,List.length_take,List.getElem?_take,List.getElem?_drop]
       by_cases q1 : j < off
       ·simp [q1,show j < min off cs.length + (bX v).length by omega,show j < min off cs.length by omega,hj]
       ·by_cases q2 : j < off + (bX v).length
        ·have q3 : j - off < (bX v).length:=by omega
         simp only [q1,q2,dif_pos,dif_neg,if_true,if_false,not_false_iff,show j < min off cs.length + (bX v).length by omega,show ¬ j < min off cs.length by omega,show j - min off cs.length = j - off by omega]
         simp [q3]
        ·simp only [q1,q2,dif_neg,if_false,not_false_iff,show ¬ j < min off cs.length + (bX v).length by omega,show off + (bX v).length + (j - (min off cs.length + (bX v).length)) = j by omega]
         simp [hj]
      rw [e3] at e4;exact Option.some.inj e4
     rw [key2]
     by_cases q1 : j < off
     ·rw [if_pos q1,dif_pos q1];exact hr0 j hj
     ·rw [if_neg q1,dif_neg q1]
      by_cases q2 : j < off + (bX v).length
      ·rw [if_pos q2,dif_pos q2];exact hr.2 (j - off) (by omega)
      ·rw [if_neg q2,dif_neg q2];exact hr0 j hj) hd
    unfold Oper.wp
    have hs:=dp (P:=E.P) (w:=w) h1
    have : (execOp a.eval o).run E.P w = .ok .skip (w.setRow g (c0.toList.take (G.β b + off) ++ (a.eval x).cells.toList ++ c0.toList.drop (G.β b + off + (a.eval x).cells.toList.length)).toArray):=by
     simp only [Nat.add_zero] at hst
     have hsz : (a.eval x).cells.size = (bX v).length:=by simpa using hlen
     simp [execOp,ho,e,Instr.storeAt,Instr.sureAddr,storeVar,hs,hsz,hst]
    rw [this]
    exact ⟨G',hG⟩
  ·exact .fail
end
end Go.Proofs.YtmpdocplcgbpkaaGreatDoor
namespace Go.Proofs.YtmpdocplcgbpkaaGreatDoor
set_option linter.unusedSimpArgs false
set_option linter.unusedVariables false
open Go.RowKit
theorem im {α β : Type} {f : α→Option β} : ∀ {l : List α} {ys : List β},l.mapM f = some ys→ys.length = l.length
 | [],ys,h=>by simp at h;subst h;rfl
 | x :: l,ys,h=>by
  simp only [List.mapM_cons,Option.bind_eq_bind,Option.bind_eq_some_iff,Option.pure_def,Option.some.injEq] at h
  obtain ⟨y,hy,zs,hz,rfl⟩:=h
  simp [im hz]
theorem ig {α β : Type} {f : α→Option β} : ∀ {l : List α} {ys : List β} (h : l.mapM f = some ys) (j : Nat) (h1 : j < l.length) (h2 : j < ys.length),f l[j] = some ys[j]
 | x :: l,ys,h,j,h1,h2=>by
  simp only [List.mapM_cons,Option.bind_eq_bind,Option.bind_eq_some_iff,Option.pure_def,Option.some.injEq] at h
  obtain ⟨y,hy,zs,hz,rfl⟩:=h
  cases j with
  | zero=>exact hy
  | succ j=>exact ig hz j (by simpa using h1) (by simpa using h2)
def cG (Z : fV) (g lo : Nat) (vs : List Value) : fV:=fun b o=>if b = g∧lo≤o∧o < lo + vs.length then some (vs.getD (o - lo) undef) else Z b o
theorem fS {Z : fV} {g lo : Nat} {vs : List Value} (h : ∀ o,lo≤o→Z g o = none) : SealLe Z (cG Z g lo vs):=fun b o v hv=>by
 unfold cG
 rw [if_neg]
 ·exact hv
 ·rintro ⟨rfl,h1,_⟩;rw [h o h1] at hv;cases hv
theorem fR {Z : fV} {g lo : Nat} {vs : List Value} {j : Nat} (h : j < vs.length) : cG Z g lo vs g (lo + j) = some (vs.getD j undef):=by
 unfold cG
 rw [if_pos ⟨rfl,by omega,by omega⟩,Nat.add_sub_cancel_left]
theorem iV {Z : fV} {g lo : Nat} {vs : List Value} {b o : Nat} {v : Value} (h : cG Z g lo vs b o = some v) : (b = g∧lo≤o∧o - lo < vs.length∧v = vs.getD (o - lo) undef)∨Z b o = some v:=by
 unfold cG at h
 split at h
 ·rename_i h1;cases h;exact .inl ⟨h1.1,h1.2.1,by omega,rfl⟩
 ·exact .inr h
def PCRel (Z : fV) (vs : List Value) (cs : List AV) : Prop:=vs.length = cs.length∧∀ j (h : j < cs.length),PRel Z (vs.getD j undef) cs[j]∧(vs.getD j undef).oneCell' = true
theorem CRel.of_pure {G : Gh} {B : Nat→AV} {vs : List Value} {cs : List AV} (h : PCRel G.Z vs cs) : CRel G B vs cs:=⟨h.1,fun j hj=>⟨.p (h.2 j hj).1,(h.2 j hj).2⟩⟩
section
variable {E : Env} {o : Oper} {σ : bv} {a : Act} {w : World} {G : Gh}
theorem Sim.newSeal (h : Sim E σ a w G) (hd : c9 E.N o) {w' : World} {vs : List Value} (hold : ∀ k,k < w.heap.size→w'.heap[k]? = w.heap[k]?) (hsz : w.heap.size≤w'.heap.size) (hos : w'.os = w.os∧w'.tape = w.tape∧w'.output = w.output)
  (hnew : ∀ j,j < vs.length→w'.cell? ⟨w.heap.size,j,none⟩ = some (vs.getD j undef)∧(vs.getD j undef).oneCell' = true) {v : Value} {x : AV} (hx : PRel (cG G.Z w.heap.size 0 vs) v x) :
  ∃ G',Sim E (ck σ (dn o x)) (a.put o.dst v) w' G':=by
 have hz0 : ∀ o',G.Z w.heap.size o' = none:=fun o'=>gg h o'
 have hle : SealLe G.Z (cG G.Z w.heap.size 0 vs):=fS fun o' _=>hz0 o'
 have hs : BStep G (lm σ) { G with Z:=cG G.Z w.heap.size 0 vs } (lm (ck σ (dn o x))) :=
  ⟨hle,fun k hk=>.same (gT hd x k hk) rfl rfl rfl⟩
 refine ⟨{ G with Z:=cG G.Z w.heap.size 0 vs },h.put (x:=x) (gi hd) hs ⟨fun b o' u hz=>?_,fun k g hg=>?_,fun k cs ty hk hB=>h.st.real k cs ty hk ((gT hd x k hk).symm.trans hB),h.st.inj,h.st.gl.mono hle⟩
  ⟨hos.1,hos.2.1,hos.2.2,hsz,fun b _ hb=>hold b hb⟩ (fun b o' hb=>if_neg (by rintro ⟨rfl,_⟩;exact kd h (Nat.le_refl _) hb)) (.p hx) fun t _=>fq t⟩
 ·rcases iV hz with ⟨rfl,_,h2,rfl⟩ | hz
  ·simpa using hnew (o' - 0) h2
  ·have:=h.st.agree b o' u hz
   exact ⟨(World.cell?_of_block (a:=⟨b,o',none⟩) (hold b (iX h hz))).trans this.1,this.2⟩
 ·obtain ⟨h1,h2,h3⟩:=h.st.box k g hg
  refine ⟨h1,h2,h3.step hs (gT hd x k h1) rfl rfl (hold g (ew h hg)) fun o'=>?_⟩
  show cG G.Z w.heap.size 0 vs g o' = G.Z g o'
  unfold cG
  rw [if_neg]
  rintro ⟨rfl,_⟩;exact absurd (ew h hg) (Nat.lt_irrefl _)
theorem iw {G : Gh} {B : Nat→AV} : ∀ (k : Nat) {x y : AV} {v : Value},VRel G B v x→cN k x = some y→PRel G.Z v y
 | 0,_,_,_,_,h=>by simp [cN] at h
 | k + 1,x,y,v,hv,h=>by
  have lst : ∀ {cs ys : List AV} {vs : Array Value},cs.mapM (cN k) = some ys→(∀ j (hj : j < cs.length),VRel G B (vs.getD j undef) cs[j])→ys.length = cs.length∧∀ j (hj : j < ys.length),PRel G.Z (vs.getD j undef) ys[j]:=fun {cs ys vs} hm hc=>by
   have hl : ys.length = cs.length:=im hm
   exact ⟨hl,fun j hj=>iw k (hc j (by omega)) (ig hm j (by omega) hj)⟩
  cases x with
  | c x=>simp [cN] at h;subst h;rw [cI hv];exact .c _
  | u=>simp [cN] at h
  | sl cs n o =>
   obtain ⟨ad,cap,b,off,f,rfl,⟨h1,h2,h3,h4,h5⟩,hf,_⟩:=dR hv
   cases o <;> simp [cN] at h <;> subst h
   ·exact .sl ad b off n cap .none cs f (.inl rfl) h1 h2 h3 h4 h5
   ·exact .sl ad b off n cap .full cs f (.inr ⟨rfl,hf rfl⟩) h1 h2 h3 h4 h5
   ·exact .sl ad b off n cap .none cs f (.inl rfl) h1 h2 h3 h4 h5
  | rf cs o =>
   simp [cN] at h;subst h
   obtain ⟨b,off,f,rfl,hz,hp⟩:=gk hv
   exact .rf b off o cs f hz hp
  | agg cs =>
   simp only [cN,Option.map_eq_some_iff] at h
   obtain ⟨ys,hm,rfl⟩:=h
   obtain ⟨vs,rfl,hs,h1,hp⟩:=fe hv
   obtain ⟨hl,hq⟩:=lst hm hp
   exact .agg vs ys (by omega) (fun j hj=>h1 j (by omega)) hq
  | tup cs =>
   simp only [cN,Option.map_eq_some_iff] at h
   obtain ⟨ys,hm,rfl⟩:=h
   obtain ⟨vs,rfl,hs,hp⟩:=gt hv
   obtain ⟨hl,hq⟩:=lst hm hp
   exact .tup vs ys (by omega) hq
  | ifc t x =>
   simp only [cN,Option.map_eq_some_iff] at h
   obtain ⟨y,hy,rfl⟩:=h
   obtain ⟨v',rfl,hv'⟩:=dk hv
   exact .ifc t v' y (iw k hv' hy)
  | fn f p q =>
   obtain ⟨va,vb,rfl,ha,hb,pa,pb⟩:=g6 hv
   cases hp : p.mapM (cN k) with
   | none=>simp [cN,hp] at h
   | some p' =>
    cases hq : q.mapM (cN k) with
    | none=>simp [cN,hp,hq] at h
    | some q' =>
     simp [cN,hp,hq] at h;subst h
     obtain ⟨l1,r1⟩:=lst hp pa
     obtain ⟨l2,r2⟩:=lst hq pb
     exact .fn f va vb p' q' (by omega) (by omega) r1 r2
  | loc b o=>simp [cN] at h
  | arr b o n e=>simp [cN] at h
  | bc cs ty=>simp [cN] at h
  | bt n e=>simp [cN] at h
  | mp b=>simp [cN] at h
  | ow b off n v=>simp [cN] at h
  | lo b off v=>simp [cN] at h
  | br cs v e sz=>simp [cN] at h
  | fo rows=>simp [cN] at h
theorem nO (off : Nat) : ∀ (l : List Value) (k : Nat) (cells : Array Value),off + k + l.length≤cells.size →
  ((l.zipIdx k).foldl (fun (cs : Array Value) p=>cs.setIfInBounds (off + p.2) p.1) cells).toList = cells.toList.take (off + k) ++ l ++ cells.toList.drop (off + k + l.length)
 | [],k,cells,_=>by simp
 | v :: l,k,cells,h=>by
  have hl : off + k + (l.length + 1)≤cells.size:=by simpa using h
  rw [List.zipIdx_cons,List.foldl_cons,nO off l (k + 1) _ (by simp;omega)]
  have:=list_seg_step cells.toList (off + k) v l (by simpa using hl)
  simpa [Nat.add_assoc] using this
theorem kv {G : Gh} {B : Nat→AV} {place : Nat→Option (Nat × Nat)} : ∀ {xs : List (Nat × AV)} {vs : List (Nat × Value)} {cells : Array Value} {cs cs' : List AV},CRel G B cells.toList cs→vs.length = xs.length →
  (∀ j (h1 : j < vs.length) (h2 : j < xs.length),vs[j].1 = xs[j].1∧VRel G B vs[j].2 xs[j].2)→jg place cs xs = some cs'→∃ cells',Instr.fill place cells vs = some cells'∧CRel G B cells'.toList cs'
 | [],[],cells,cs,cs',hc,_,_,h=>by simp [jg] at h;subst h;exact ⟨cells,rfl,hc⟩
 | (i,x) :: xs,(i',v) :: vs,cells,cs,cs',hc,hl,hr,h=>by
  obtain ⟨e,hv⟩:=hr 0 (by simp) (by simp)
  simp only [List.getElem_cons_zero] at e hv
  subst e
  simp only [jg] at h
  cases hp : place i' with
  | none=>simp [hp] at h
  | some pl =>
   obtain ⟨off,size⟩:=pl
   simp only [hp] at h
   split at h
   ·rename_i hcond
    obtain ⟨h1,h2,h3⟩:=hcond
    have hcr:=jA hv h3
    have l1:=hcr.1
    have l2:=hc.1
    simp only [Array.length_toList] at l1 l2
    have hfold : (v.cells.zipIdx.foldl (fun cs (c,j)=>cs.setIfInBounds (off + j) c) cells).toList = cells.toList.take off ++ v.cells.toList ++ cells.toList.drop (off + v.cells.toList.length):=by
     have:=nO off v.cells.toList 0 cells (by simp;omega)
     rw [← Array.foldl_toList]
     simpa using this
    obtain ⟨cells',h4,h5⟩:=kv (place:=place) (cells:=v.cells.zipIdx.foldl (fun cs (c,j)=>cs.setIfInBounds (off + j) c) cells) (by rw [hfold];exact hc.putAt hcr off) (by simpa using hl)
     (fun j hj1 hj2=>hr (j + 1) (by simpa using hj1) (by simpa using hj2)) h
    refine ⟨cells',?_,h5⟩
    simp only [Instr.fill,hp]
    rw [if_neg (by simp;omega)]
    exact h4
   ·cases h
 | [],_ :: _,_,_,_,_,hl,_,_=>by simp at hl
 | _ :: _,[],_,_,_,_,hl,_,_=>by simp at hl
theorem lj {a : Act} {G : Gh} {B : Nat→AV} {parts : Array (Nat × Operand)} {ys : List AV} (hl : ys.length = (parts.toList.map (·.2)).length)
  (hr : ∀ j (h1 : j < (parts.toList.map (·.2)).length) (h2 : j < ys.length),VRel G B (a.eval (parts.toList.map (·.2))[j]) ys[j]) {L : List (Nat × Value)} (hL : L = (parts.map fun p=>match p with | (i,x)=>(i,a.eval x)).toList) :
  L.length = ((parts.toList.map (·.1)).zip ys).length ∧
  ∀ j (h1 : j < L.length) (h2 : j < ((parts.toList.map (·.1)).zip ys).length),L[j].1 = ((parts.toList.map (·.1)).zip ys)[j].1∧VRel G B L[j].2 ((parts.toList.map (·.1)).zip ys)[j].2:=by
 subst hL
 simp only [List.length_map,Array.length_toList] at hl
 refine ⟨by simp [hl],fun j h1 h2=>?_⟩
 have hj : j < parts.size:=by simpa using h1
 have:=hr j (by simpa using hj) (by omega)
 simpa using this
theorem u4 (h : Sim E σ a w G) {t : TypeId} {parts : Array (Nat × Operand)} (ho : o.op = .build t parts) :
  Snd E.P σ (rdos (parts.toList.map (·.2)) fun vs=>pf E.P E.N o t ((parts.toList.map (·.1)).zip vs)) (d6 E o σ a w) :=
 .rdos h fun ys hl hr=>by
  unfold pf
  split
  ·rename_i pl z hp hz
   split
   ·rename_i cs hf
    refine .need fun h1=>?_
    obtain ⟨it,zv,hit,hiz,hzv⟩:=jQ hz
    obtain ⟨hp1,hp2⟩:=lj hl hr rfl
    obtain ⟨cells',h2,h3⟩:=kv (cells:=zv.cells) (by rw [hzv];exact nq h1) hp1 hp2 hf
    refine bU h (v:=.agg cells') ?_ (.agg _ _ (by simpa using h3.1) (fun j hj=>by simpa [Array.getD_eq_getD_getElem?] using (h3.2 j hj).2) fun j hj=>by simpa [Array.getD_eq_getD_getElem?] using (h3.2 j hj).1)
    have hb : E.P.built t (parts.map fun (i,x)=>(i,a.eval x)).toList = some cells':=by
     unfold cP at hp
     cases hu : E.P.underlying t with
     | none=>simp [hu] at hp
     | some d =>
      cases d <;> simp [hu] at hp
      rename_i fs
      simp only [Program.built,hit,hu,hiz,hp]
      simpa using h2
    simp only [execOp,ho,Sem.run_bind,run_build w t _ _ hb]
    rfl
   ·exact .fail
  ·exact .fail
theorem jt {G : Gh} {B : Nat→AV} {z : List Value} (h1 : ee (z.map ofV) = true) : ∀ n : Nat,CRel G B (List.replicate n z).flatten (jU (z.map ofV) n)
 | 0=>.nil _ _
 | n + 1=>by
  rw [List.replicate_succ,List.flatten_cons]
  exact (nq h1).append (jt h1 n)
theorem jL (z : Array Value) : ∀ n : Nat,((Array.range (n * z.size)).map (z[· % z.size]!)).toList = (List.replicate n z.toList).flatten
 | 0=>by simp
 | n + 1=>by
  by_cases hz : z.size = 0
  ·have : z.toList = []:=by simpa using hz
   simp [hz,this]
  ·apply List.ext_getElem?
   intro j
   have ih:=jL z n
   rw [List.replicate_succ',List.flatten_append,← ih]
   simp only [List.flatten_cons,List.flatten_nil,List.append_nil]
   by_cases hj : j < n * z.size
   ·rw [List.getElem?_append_left (by simpa using hj)]
    have : j < (n + 1) * z.size:=by rw [Nat.succ_mul];omega
    simp [hj,this]
   ·rw [List.getElem?_append_right (by simpa using hj)]
    by_cases hj2 : j < (n + 1) * z.size
    ·have e : j % z.size = j - n * z.size:=by
      have h2 : j - n * z.size < z.size:=by rw [Nat.succ_mul] at hj2;omega
      have h3 : j = (j - n * z.size) + z.size * n:=by have hc:=Nat.mul_comm z.size n;omega
      conv=>lhs;rw [h3]
      rw [Nat.add_mul_mod_self_left,Nat.mod_eq_of_lt h2]
     have h2 : j - n * z.size < z.size:=by rw [Nat.succ_mul] at hj2;omega
     simp [hj2,e,h2]
    ·have h2 : z.size≤j - n * z.size:=by rw [Nat.succ_mul] at hj2;omega
     simp [hj2,h2]
theorem iR {Z : fV} {v : Value} {x : AV} (h : VRel ⟨Z,fun _=>none,fun _=>0,fun _=>0⟩ (fun _=>.u) v x) : PRel Z v x:=by
 generalize hG : (⟨Z,fun _=>none,fun _=>0,fun _=>0⟩ : Gh) = G at h
 generalize hB : (fun _ : Nat=>AV.u) = B at h
 induction h with
 | p h=>subst hG;exact h
 | tok a n cap cs b tip e h hb hB' hn hk=>subst hB;cases hB'
 | loc b off g cs ty hb hB' hg hm=>subst hB;cases hB'
 | arr b off n e cap g cs ty hb hB' hg hn hm=>subst hB;cases hB'
 | mp b g cs ty hb hB' hg hm=>subst hB;cases hB'
 | ow a n cap b off v cs v' e sz hb hB' hn ha hv hk=>subst hB;cases hB'
 | lo g o b off v cs v' e sz hb hB' hv hk=>subst hB;cases hB'
 | agg vs cs hs h1 hp ih=>exact .agg vs cs hs h1 ih
 | tup vs cs hs hp ih=>exact .tup vs cs hs ih
 | ifc t v x h ih=>exact .ifc t v x ih
 | fn f va vb a b ha hb pa pb ia ib=>exact .fn f va vb a b ha hb ia ib
theorem i6 {P : Program} {w : World} {t e len sz : Nat} {z : List Value} {parts : Array (Nat × Value)} {cells : Array Value} (he : aT P t = some e) (hsz : bZ P e = some sz) (hz : bw P e = some z) (hzl : z.length = sz) (hm : len * sz≤16777216)
  {c0 : Array Value} (hc0 : c0.toList = (List.replicate len z).flatten) (hf : Instr.fill (fun i=>some (i * sz,sz)) c0 parts.toList = some cells) :
  (Instr.buildSlice t len parts).run P w = .ok (.slice (some ⟨w.heap.size,0,none⟩) len len) (w.alloc (.cells cells e)):=by
 obtain ⟨i,v,hi,hiz,hv⟩:=jQ hz
 have hs : i.size = sz:=by unfold bZ at hsz;simpa [hi] using hsz
 have hr:=jL v.cells len
 have hvs : v.cells.size = sz:=by rw [← hzl,← hv];simp
 rw [hv,hvs] at hr
 subst hs
 by_cases h0 : len * i.size = 0
 ·have hc : c0 = #[]:=by
   rw [h0] at hr
   apply Array.toList_inj.1
   rw [hc0,← hr];simp
  subst hc
  have hm' : ¬ 2 ^ 24 < len * i.size:=by omega
  have hf0 : Instr.fill (fun j=>some (j * i.size,i.size)) (Array.map (fun _=>(default : Value)) (Array.range 0)) parts.toList = some cells:=by
   rw [show Array.map (fun _=>(default : Value)) (Array.range 0) = #[] by simp];exact hf
  simp [Instr.buildSlice,run_underlying (cp he),sizeOf,typeInfo,hi,hm',h0,hf0,newRow]
 ·have hc : c0 = (Array.range (len * i.size)).map (v.cells[· % v.cells.size]!):=by
   apply Array.toList_inj.1
   rw [hc0,← hr,hvs]
  subst hc
  exact run_buildSlice w t e len parts cells i v (cp he) hi hiz (by omega) h0 hf
theorem nN {place : Nat→Option (Nat × Nat)} : ∀ {xs : List (Nat × AV)} {cs cs' : List AV},jg place cs xs = some cs'→cs'.length = cs.length
 | [],cs,cs',h=>by simp [jg] at h;subst h;rfl
 | (i,x) :: xs,cs,cs',h=>by
  simp only [jg] at h
  cases hp : place i with
  | none=>simp [hp] at h
  | some pl =>
   obtain ⟨off,size⟩:=pl
   simp only [hp] at h
   split at h
   ·rename_i hc
    rw [nN h,eM (by omega)]
   ·cases h
theorem qO (z : List AV) : ∀ n,(jU z n).length = n * z.length
 | 0=>by simp [jU]
 | n + 1=>by rw [jU,List.length_append,qO z n,Nat.succ_mul];omega
theorem mZ (h : Sim E σ a w G) {t : TypeId} {len : Nat} {parts : Array (Nat × Operand)} (ho : o.op = .buildSlice t len parts) :
  Snd E.P σ (rdos (parts.toList.map (·.2)) fun vs=>gQ E.P E.N o t len ((parts.toList.map (·.1)).zip vs)) (d6 E o σ a w) :=
 .rdos h fun ys hl hr=>by
  unfold gQ
  split
  ·rename_i e sz z he hsz hz
   rw [he] at hsz hz
   simp only [Option.bind_some] at hsz hz
   split
   ·rename_i ps hps
    split
    ·rename_i cs hf
     refine .need fun ⟨h1,h2,h3⟩=>.need fun hd=>.done fun Q=>?_
     obtain ⟨hp1,hp2⟩:=lj hl hr rfl
     have hl2:=im hps
     have hc0 : ∃ c0 : Array Value,c0.toList = (List.replicate len z).flatten:=⟨(List.replicate len z).flatten.toArray,by simp⟩
     obtain ⟨c0,hc0⟩:=hc0
     obtain ⟨cells',h4,h5⟩:=kv (G:=⟨G.Z,fun _=>none,fun _=>0,fun _=>0⟩) (B:=fun _=>.u) (cells:=c0) (by rw [hc0];exact jt h1 len) (hp1.trans hl2.symm) (fun j hj1 hj2=>by
      have h6:=ig hps j (by omega) hj2
      obtain ⟨e1,e2⟩:=hp2 j hj1 (by omega)
      simp only [Option.map_eq_some_iff] at h6
      obtain ⟨y,hy,h7⟩:=h6
      rw [← h7]
      exact ⟨e1,.p (show PRel G.Z _ y from iw (G:=G) (B:=lm σ) 4 e2 hy)⟩) hf
     have hrun:=i6 (w:=w) he hsz hz h2 h3 hc0 h4
     unfold Oper.wp
     simp only [execOp,ho,Sem.run_bind,hrun]
     have hlen:=h5.1
     exact h.newSeal hd (w':=w.alloc (.cells cells' e)) (vs:=cells'.toList) (fun k hk=>heap_alloc_old w _ hk) (by simp) ⟨rfl,rfl,rfl⟩ (fun j hj=>by
       have:=h5.2 j (by omega)
       have hj' : j < cells'.size:=by simpa using hj
       refine ⟨?_,this.2⟩
       rw [cell_of_row _ w.heap.size j cells' e (0,0) (heap_alloc_new w _)]
       simp [List.getD_eq_getElem?_getD,hj'])
      (.sl _ w.heap.size 0 len len .full cs (fun j=>cells'.toList.getD j undef) (.inr ⟨rfl,rfl⟩) (Nat.le_refl _) (fun e=>by cases e) (.inr rfl) (fun j hj=>fR (by omega))
       fun j hj=>(iR (h5.2 j hj).1).mono (fS fun o' _=>gg h o'))
    ·exact .fail
   ·split
    ·rename_i cs d hf hdst
     refine .need fun ⟨hdd,h1,h2,h3⟩=>.rd ?_
     split
     ·rename_i hk
      refine .done fun Q=>?_
      obtain ⟨hp1,hp2⟩:=lj hl hr rfl
      obtain ⟨c0,hc0⟩ : ∃ c0 : Array Value,c0.toList = (List.replicate len z).flatten:=⟨(List.replicate len z).flatten.toArray,by simp⟩
      obtain ⟨cells',h4,h5⟩:=kv (G:=G) (B:=lm σ) (cells:=c0) (by rw [hc0];exact jt h1 len) hp1 hp2 hf
      have hrun:=i6 (w:=w) he hsz hz h2 h3 hc0 h4
      have hd' : d < E.N∧d < 10000:=by unfold c9 at hdd;rw [hdst] at hdd;exact hdd
      have hcells : E.P.cellsOf e = sz:=by unfold bZ at hsz;simp [Program.cellsOf,hsz]
      have hfl : cs.length = len * sz:=by
       have:=nN hf
       rw [this,qO,List.length_map,h2]
      obtain ⟨G',hG⟩:=h.newBlockRow (e:=e) (sz:=sz) (n:=len) hd' hk h5 hcells.symm hfl
      unfold Oper.wp
      have hr : (execOp a.eval o).run E.P w = .ok (.value (.slice (some ⟨w.heap.size,0,none⟩) len len)) (w.alloc (.cells cells' e)):=by
       simp only [execOp,ho,Sem.run_bind,hrun];rfl
      rw [hr,Oper.upon,hdst]
      exact ⟨G',hG⟩
     ·exact .fail
    ·exact .fail
  ·exact .fail
theorem nC (h : Sim E σ a w G) {t : TypeId} {x y : Operand} (ho : o.op = .makeSlice t x y) : Snd E.P σ (rdo x fun a=>rdo y fun b=>iN E.P E.N o t a b) (d6 E o σ a w) :=
 .rdo h fun va hva=>.rdo h fun vb hvb=>by
  unfold iN
  split
  case h_2=>exact .fail
  rename_i e sz z he hsz hz
  rw [he] at hsz hz
  simp only [Option.bind_some] at hsz hz
  refine .ex fun vx hvx=>?_
  rcases hvx with rfl | rfl
  ·show Snd E.P σ (pn E.P E.N o e sz z va vb) _
   unfold pn
   split
   ·rename_i k n k' m
    split
    ·rename_i d hd
     refine .need fun ⟨hnm,h0,hby,h63,h1,hzl,hdd,hty⟩=>.rd ?_
     split
     ·rename_i hk
      refine .done fun Q=>?_
      subst hnm
      have ea:=cI hva
      have eb:=cI hvb
      obtain ⟨i,v,hi,hiz,hv⟩:=jQ hz
      have hs : i.size = sz:=by unfold bZ at hsz;simpa [hi] using hsz
      have hbb : aP E.P e = i.bytes:=by unfold aP;simp [hi]
      rw [hbb] at hby
      have hrun:=run_make w t e i v (cp he) hi hiz k k' n n h0 (Int.le_refl _) hby h63
      have hvs : v.cells.size = sz:=by rw [← hzl,← hv];simp
      have hcl : (madeCells v.cells (n.toNat * i.size)).toList = (List.replicate n.toNat z).flatten:=by
       rw [hs,← hvs,← hv];exact jL v.cells n.toNat
      have h5 : CRel G (lm σ) (madeCells v.cells (n.toNat * i.size)).toList (jU (z.map ofV) n.toNat):=by rw [hcl];exact jt h1 _
      generalize madeCells v.cells (n.toNat * i.size) = cells' at *
      have hdd' : d < E.N∧d < 10000:=by unfold c9 at hdd;rw [hd] at hdd;exact hdd
      obtain ⟨G',hG⟩:=h.newBoxV hdd' hk (c:=cells') e (FitsC.of_rel h5).1 (FitsC.of_rel h5).2 hty (.arr (10000 + d) 0 n.toNat e) (.slice (some ⟨w.heap.size,0,none⟩) n.toNat n.toNat) fun G' B' hB hg=>.arr (10000 + d) 0 n.toNat e n.toNat w.heap.size _ e (by omega) hB hg (Nat.le_refl _) hty
      unfold Oper.wp
      have hr : (execOp a.eval o).run E.P w = .ok (.value (.slice (some ⟨w.heap.size,0,none⟩) n.toNat n.toNat)) (w.alloc (.cells cells' e)):=by
       simp only [execOp,ho,Sem.run_bind,ea,eb,hrun];rfl
      rw [hr,Oper.upon,hd]
      exact ⟨G',hG⟩
     ·exact .fail
    ·exact .fail
   ·exact .fail
  show Snd E.P σ (pm E.P E.N o e sz z va vb) _
  unfold pm
  split
  ·rename_i k n k' m
   refine .need fun ⟨hnm,h0,hby,h63,h1,hzl⟩=>.need fun hd=>.done fun Q=>?_
   subst hnm
   have ea:=cI hva
   have eb:=cI hvb
   obtain ⟨i,v,hi,hiz,hv⟩:=jQ hz
   have hs : i.size = sz:=by unfold bZ at hsz;simpa [hi] using hsz
   have hbb : aP E.P e = i.bytes:=by unfold aP;simp [hi]
   rw [hbb] at hby
   have hrun:=run_make w t e i v (cp he) hi hiz k k' n n h0 (Int.le_refl _) hby h63
   have hvs : v.cells.size = sz:=by rw [← hzl,← hv];simp
   have hcl : (madeCells v.cells (n.toNat * i.size)).toList = (List.replicate n.toNat z).flatten:=by
    rw [hs,← hvs,← hv];exact jL v.cells n.toNat
   have h5 : CRel ⟨G.Z,fun _=>none,fun _=>0,fun _=>0⟩ (fun _=>.u) (madeCells v.cells (n.toNat * i.size)).toList (jU (z.map ofV) n.toNat):=by rw [hcl];exact jt h1 _
   generalize madeCells v.cells (n.toNat * i.size) = cells' at *
   unfold Oper.wp
   simp only [execOp,ho,Sem.run_bind,ea,eb,hrun]
   have hlen:=h5.1
   exact h.newSeal hd (w':=w.alloc (.cells cells' e)) (vs:=cells'.toList) (fun k hk=>heap_alloc_old w _ hk) (by simp) ⟨rfl,rfl,rfl⟩ (fun j hj=>by
     have:=h5.2 j (by omega)
     have hj' : j < cells'.size:=by simpa using hj
     refine ⟨?_,this.2⟩
     rw [cell_of_row _ w.heap.size j cells' e (0,0) (heap_alloc_new w _)]
     simp [List.getD_eq_getElem?_getD,hj'])
    (.sl _ w.heap.size 0 n.toNat n.toNat .full _ (fun j=>cells'.toList.getD j undef) (.inr ⟨rfl,rfl⟩) (Nat.le_refl _) (fun e=>by cases e) (.inr rfl) (fun j hj=>fR (by omega))
     fun j hj=>(iR (h5.2 j hj).1).mono (fS fun o' _=>gg h o'))
  ·exact .fail
theorem eG : ∀ l : List AV,(ct l).length = l.length
 | []=>rfl
 | x :: r=>by
  have ih:=eG r
  cases x with
  | c y=>cases y <;> simp [ct,ih]
  | _=>simp [ct,ih]
theorem qU (h : Sim E σ a w G) {src dst : TypeId} {x : Operand} (ho : o.op = .convert src dst x) : Snd E.P σ (rdo x fun v=>kC E.P E.N o src dst v) (d6 E o σ a w) :=
 .rdo h fun v hv=>by
  unfold kC
  split
  ·rename_i k n
   have ev:=cI hv
   split
   ·rename_i k' hk
    refine .need fun hs=>?_
    obtain ⟨d,hd⟩:=Option.isSome_iff_exists.1 hs
    exact bU h (v:=.int k' (k'.wrap n)) (by simp [execOp,ho,ev,convert,run_underlying hd,run_underlying (fU hk),Conv.intToInt]) (.p (.c _))
   ·exact .fail
  ·rename_i s
   have ev:=cI hv
   split
   ·rename_i hst
    refine .need fun hs=>?_
    obtain ⟨d,hd⟩:=Option.isSome_iff_exists.1 hs
    exact bU h (v:=.string s) (by simp [execOp,ho,ev,convert,run_underlying hd,run_underlying (dO hst)]) (.p (.c _))
   ·split
    ·rename_i e he
     refine .need fun ⟨hs,hu8⟩=>.need fun hd=>.done fun Q=>?_
     have hrun:=run_bytes_of_string (P:=E.P) w src dst e s (dO hs) (cp he) (fU hu8)
     unfold Oper.wp
     simp only [execOp,ho,ev,Sem.run_bind,hrun]
     have hge : s.size≤grownCap w s.size 0 e:=grownCap_ge w s.size 0 e
     refine h.newSeal hd (vs:=s.data.toList.map fun b : UInt8=>Value.int .u8 (b.toNat : Int)) (fun k hk=>heap_alloc_old w.drew _ hk) (by simp) ⟨rfl,rfl,rfl⟩ (fun j hj=>?_) ?_
     ·have hj' : j < s.data.size:=by simpa using hj
      have hq : s.data[j]? = some s.data[j]:=Array.getElem?_eq_getElem hj'
      have hj2 : j < s.size:=hj'
      refine ⟨?_,by simp [List.getD_eq_getElem?_getD,hq,Value.oneCell']⟩
      rw [cell_of_row _ w.heap.size j _ e _ (heap_alloc_new w.drew _)]
      simp [List.getD_eq_getElem?_getD,bytesRow,hq,hj2,Array.getElem?_append]
     ·refine .sl _ w.heap.size 0 s.size _ .none _ (fun j=>(s.data.toList.map fun b : UInt8=>Value.int .u8 (b.toNat : Int)).getD j undef) (.inl rfl) hge (fun e=>by cases e) (.inr rfl) (fun j hj=>fR (by simpa using hj)) fun j hj=>?_
      have hj' : j < s.data.size:=by simpa using hj
      have : ((s.data.toList.map go)[j]) = .c (.int .u8 (s.data[j].toNat : Int)):=by simp [go]
      have hq : s.data[j]? = some s.data[j]:=Array.getElem?_eq_getElem hj'
      have e2 : (s.data.toList.map fun b : UInt8=>Value.int .u8 (b.toNat : Int)).getD j undef = .int .u8 (s.data[j].toNat : Int):=by simp [List.getD_eq_getElem?_getD,hq]
      rw [this,e2]
      exact .c _
    ·exact .fail
  ·rename_i cs n own
   split
   ·rename_i e he
    refine .need fun ⟨h1,h2,h3,h4⟩=>?_
    obtain ⟨ad,cap,b,off,f,ev,⟨hn,ha,hc,hz,hp⟩,_⟩:=dR hv
    have hf : ∀ j,j < cs.length→f j = .int .u8 (((ct cs).map fun b : UInt8=>(b.toNat : Int)).getD j 0):=fun j hj=>by
     have h5:=hp j hj
     have hj' : j < (ct cs).length:=by rw [eG];exact hj
     have h6 : cs[j] = go ((ct cs)[j]):=by
      have : cs[j]? = ((ct cs).map go)[j]?:=by rw [← h4]
      rw [List.getElem?_eq_getElem hj,List.getElem?_map,List.getElem?_eq_getElem hj'] at this
      simpa using this
     rw [h6] at h5
     have h7 : f j = .int .u8 ((ct cs)[j].toNat : Int):=cI (G:=G) (B:=lm σ) (.p h5)
     rw [h7]
     simp [List.getD_eq_getElem?_getD,hj']
    have hrun : (convert src dst (.slice ad n cap)).run E.P w = .ok (.string ⟨(ct cs).toArray⟩) w:=by
     rcases hc with ⟨h0,hnil⟩ | rfl
     ·subst hnil
      subst h0
      cases ad with
      | none=>simp [convert,run_underlying (cp he),run_underlying (dO h1),run_underlying (fU h2),Conv.bytesToString,ct];rfl
      | some ad=>simp [convert,run_underlying (cp he),run_underlying (dO h1),run_underlying (fU h2),Conv.bytesToString,ct,loadCells,loadCellsFrom];rfl
     ·have:=run_convert_bytes_arg (P:=E.P) w src e (cp he) (fU h2) b off n cap ((ct cs).map fun b : UInt8=>(b.toNat : Int)) (by simp [eG,h3]) (fun i hi=>by
       have:=(h.st.agree _ _ _ (hz i (by omega))).1
       rw [this,hf i (by omega)]) dst (dO h1)
      rw [this]
      have e1 : ((fun n : Int=>UInt8.ofNat n.toNat) ∘ fun b : UInt8=>(b.toNat : Int)) = id:=funext fun b=>by simp
      simp [strOfNums,e1]
    exact bU h (v:=.string ⟨(ct cs).toArray⟩) (by simp only [execOp,ho,ev,Sem.run_bind,hrun];rfl) (.p (.c _))
   ·exact .fail
  ·rename_i b n e0
   split
   ·rename_i e he
    obtain ⟨g,cap,cs0,ty0,ev,hn,hb,hB,hg,hm⟩:=gr hv
    refine .rd ?_
    rw [(fI hB).2]
    obtain ⟨c,hc,hr,_,_,hfc⟩:=fL h hb hB hg hm
    refine .need fun ⟨h1,h2,h3,h4⟩=>?_
    have hcs : cs0.length≤c.size:=hfc
    have hf : ∀ j,j < cs0.length→c.getD j undef = .int .u8 (((ct cs0).map fun b : UInt8=>(b.toNat : Int)).getD j 0):=fun j hj=>by
     have h5:=(fW hr hj).1
     have hj' : j < (ct cs0).length:=by rw [eG];exact hj
     have h6 : cs0[j] = go ((ct cs0)[j]):=by
      have : cs0[j]? = ((ct cs0).map go)[j]?:=by rw [← h4]
      rw [List.getElem?_eq_getElem hj,List.getElem?_map,List.getElem?_eq_getElem hj'] at this
      simpa using this
     rw [h6] at h5
     have h7:=cI h5
     rw [h7]
     simp [List.getD_eq_getElem?_getD,hj']
    have hrun : (convert src dst (.slice (some ⟨g,0,none⟩) n cap)).run E.P w = .ok (.string ⟨(ct cs0).toArray⟩) w:=by
     have:=run_convert_bytes_arg (P:=E.P) w src e (cp he) (fU h2) g 0 n cap ((ct cs0).map fun b : UInt8=>(b.toNat : Int)) (by simp [eG,h3]) (fun i hi=>by
      have hi' : i < c.size:=by omega
      have h9:=hf i (by omega)
      have h10 : c.getD i undef = c[i]:=by simp [Array.getD_eq_getD_getElem?,hi']
      rw [h10] at h9
      rw [cell_of_row _ g (0 + i) c ty0 (0,0) hc]
      simp [hi',h9]) dst (dO h1)
     rw [this]
     have e1 : ((fun n : Int=>UInt8.ofNat n.toNat) ∘ fun b : UInt8=>(b.toNat : Int)) = id:=funext fun b=>by simp
     simp [strOfNums,e1]
    exact bU h (v:=.string ⟨(ct cs0).toArray⟩) (by simp only [execOp,ho,ev,Sem.run_bind,hrun];rfl) (.p (.c _))
   ·exact .fail
  ·rename_i b n ver
   split
   ·rename_i e he
    obtain ⟨ad,cap,cs0,v',e0,sz0,ev,hn,had,hb,hB,hvv,how⟩:=gj hv
    refine .rdRow hb fun cs2 v2 e2' sz2 wr hB2 _=>.need fun ⟨h0,h1,h2,h3,h4⟩=>?_
    rw [hB] at hB2;cases hB2
    have how:=how h0
    have hrun : (convert src dst (.slice ad n cap)).run E.P w = .ok (.string ⟨(ct cs0).toArray⟩) w:=by
     by_cases hn0 : n = 0
     ·have hnil : cs0 = []:=List.eq_nil_of_length_eq_zero (by omega)
      subst hnil
      subst hn0
      cases ad with
      | none=>simp [convert,run_underlying (cp he),run_underlying (dO h1),run_underlying (fU h2),Conv.bytesToString,ct];rfl
      | some ad=>simp [convert,run_underlying (cp he),run_underlying (dO h1),run_underlying (fU h2),Conv.bytesToString,ct,loadCells,loadCellsFrom];rfl
     cases hγ : G.γ b with
     | none=>have:=how.1 hγ;omega
     | some g =>
      obtain ⟨_,q2⟩:=how.2 g hγ
      have q2:=q2.resolve_left (by omega)
      subst q2
      obtain ⟨⟨c,hc,hsz,_,hle,_,hr⟩,_⟩:=eO h hB hγ
      have hf : ∀ j,j < cs0.length→c.getD (G.β b + j) undef = .int .u8 (((ct cs0).map fun b : UInt8=>(b.toNat : Int)).getD j 0):=fun j hj=>by
       have h5:=(hr j hj).1
       have hj' : j < (ct cs0).length:=by rw [eG];exact hj
       have h6 : cs0[j] = go ((ct cs0)[j]):=by
        have : cs0[j]? = ((ct cs0).map go)[j]?:=by rw [← h4]
        rw [List.getElem?_eq_getElem hj,List.getElem?_map,List.getElem?_eq_getElem hj'] at this
        simpa using this
       rw [h6] at h5
       have h7:=cI h5
       rw [h7]
       simp [List.getD_eq_getElem?_getD,hj']
      rw [Nat.add_zero]
      have:=run_convert_bytes_arg (P:=E.P) w src e (cp he) (fU h2) g (G.β b) n cap ((ct cs0).map fun b : UInt8=>(b.toNat : Int)) (by simp [eG,h3]) (fun i hi=>by
       have hi' : G.β b + i < c.size:=by omega
       have h9:=hf i (by omega)
       have h10 : c.getD (G.β b + i) undef = c[G.β b + i]:=by simp [Array.getD_eq_getD_getElem?,hi']
       rw [h10] at h9
       rw [cell_of_row _ g (G.β b + i) c e0 (0,0) hc]
       simp [hi',h9]) dst (dO h1)
      rw [this]
      have e1 : ((fun n : Int=>UInt8.ofNat n.toNat) ∘ fun b : UInt8=>(b.toNat : Int)) = id:=funext fun b=>by simp
      simp [strOfNums,e1]
    exact bU h (v:=.string ⟨(ct cs0).toArray⟩) (by simp only [execOp,ho,ev,Sem.run_bind,hrun];rfl) (.p (.c _))
   ·exact .fail
  ·exact .fail
end
end Go.Proofs.YtmpdocplcgbpkaaGreatDoor
namespace Go.Proofs.YtmpdocplcgbpkaaGreatDoor
set_option linter.unusedSimpArgs false
set_option linter.unusedVariables false
open Go.RowKit
section
variable {P : Program} {w : World}
theorem tF (d : TypeDesc) (hd : ∀ k,d ≠ .int k) : (match d with | .int _=>true | _=>false) = false:=by
 revert hd
 cases d <;> intro hd <;> first | rfl | exact absurd rfl (hd _)
theorem eP {t t' ty e sz n cap m : Nat} (he : aT P t = some e) (hsz : bZ P e = some sz) {d : TypeDesc} (hu : P.underlying t' = some d) (hd : ∀ k,d ≠ .int k) {base : Option Addr} {x : Value}
  (hlen : (Builtin.lenOf x).run P w = .ok m w) {vals : List Value} (hf : (Builtin.firstCells sz m x).run P w = .ok vals.toArray w) (hroom : n + m≤cap) {w' : World}
  (hst : ∀ a,base = some a→(storeCells (a.add (n * sz)) vals).run P w = .ok () w') (hn : base = none→w' = w) :
  (Builtin.append_ #[t,t'] ty #[.slice base n cap,x]).run P w = .ok (.slice base (n + m) cap) w':=by
 have hs:=dp (P:=P) (w:=w) hsz
 have hz:=tF d hd
 cases base with
 | none =>
  obtain rfl:=hn rfl
  simp [Builtin.append_,run_underlying (cp he),run_underlying hu,hs,hz,hlen,hroom,hf]
 | some a =>
  have:=hst a rfl
  simp [Builtin.append_,run_underlying (cp he),run_underlying hu,hs,hz,hlen,hroom,hf,this]
theorem ix {t t' ty e sz n cap m : Nat} (he : aT P t = some e) (hsz : bZ P e = some sz) {d : TypeDesc} (hu : P.underlying t' = some d) (hd : ∀ k,d ≠ .int k) {base : Option Addr} {x : Value} {z : List Value} (hz : bw P e = some z)
  (hlen : (Builtin.lenOf x).run P w = .ok m w) {vals olds : List Value} (hf : (Builtin.firstCells sz m x).run P w.drew = .ok vals.toArray w.drew) (ho : (Builtin.firstCells sz n (.slice base n cap)).run P w.drew = .ok olds.toArray w.drew)
  (hroom : cap < n + m) (hb : (n + m) * aP P e≤140737488355328) (h63 : n + m≤140737488355328) :
  ∃ zs : Array Value,zs.size = (grownCap w (n + m) cap e - (n + m)) * z.length ∧
  (Builtin.append_ #[t,t'] ty #[.slice base n cap,x]).run P w = .ok (.slice (some ⟨w.heap.size,0,none⟩) (n + m) (grownCap w (n + m) cap e)) (w.drew.alloc (.cells ((olds ++ vals).toArray ++ zs) e)):=by
 have hs:=dp (P:=P) (w:=w) hsz
 obtain ⟨i,v,hi,hiz,hv⟩:=jQ hz
 have hbb : aP P e = i.bytes:=by simp [aP,hi]
 rw [hbb] at hb
 have hfit:=growslice_fits hroom hb
 have h1 : ¬ n + m≤cap:=by omega
 have h2 : ¬ (9223372036854775807 < ((n : Int) + (m : Int))):=by omega
 have h3 : ¬ (281474976710656 < Builtin.nextslicecap (n + m) cap * i.bytes):=by omega
 refine ⟨Builtin.zeroCells v.cells (grownCap w (n + m) cap e - (n + m)),by rw [size_zeroCells,← hv];simp,?_⟩
 have hzz:=tF d hd
 simp [Builtin.append_,run_underlying (cp he),run_underlying hu,hs,hzz,hlen,h1,h2,h3,typeInfo,zeroValue,hi,hiz,Question.forced,hf,ho,newRow,grownCap]
 congr 2;rw [← List.append_toArray,Array.append_assoc]
end
section
variable {E : Env} {o : Oper} {σ : bv} {a : Act} {w : World} {G : Gh}
theorem m4 (h : Sim E σ a w G) {cs : List AV} {n sz : Nat} {ad : Option Addr} {cap b off : Nat} {f : Nat→Value} (hs : SlAt G cs n ad cap b off f) (hl : cs.length = n * sz) :
  ∃ vals : List Value,PCRel G.Z vals cs∧(∀ w' : World,w'.heap = w.heap→(Builtin.firstCells sz n (.slice ad n cap)).run E.P w' = .ok vals.toArray w') ∧
   ∀ g,ad = some ⟨g,0,none⟩→∀ j,j < vals.length→G.Z g j = some (vals.getD j undef):=by
 obtain ⟨h1,h2,h3,h4,h5⟩:=hs
 refine ⟨(List.range cs.length).map f,⟨by simp,fun j hj=>?_⟩,fun w' hw'=>?_,fun g hg j hj=>?_⟩
 ·have:=h.st.agree _ _ _ (h4 j hj)
  simpa [List.getD_eq_getElem?_getD,hj] using And.intro (h5 j hj) this.2
 ·have hcell : ∀ j v,((List.range cs.length).map f)[j]? = some v→w'.cell? ⟨b,off + j,none⟩ = some v:=fun j v hj=>by
   obtain ⟨e1,e2⟩:=List.getElem?_eq_some_iff.1 hj
   have e1' : j < cs.length:=by simpa using e1
   have:=(h.st.agree _ _ _ (h4 j e1')).1
   have e3 : w'.cell? ⟨b,off + j,none⟩ = w.cell? ⟨b,off + j,none⟩:=World.cell?_of_block (a:=⟨b,off + j,none⟩) (by rw [hw'])
   rw [e3,this,← e2];simp
  rcases h3 with ⟨rfl,rfl⟩ | rfl
  ·cases ad <;> simp [Builtin.firstCells,loadCells,loadCellsFrom]
  ·refine run_firstCells_some (P:=E.P) w' sz n ⟨b,off,none⟩ n cap _ (by simpa using hl) fun j v hj=>?_
   rw [Addr.add_mid];exact hcell j v hj
 ·have hj' : j < cs.length:=by simpa using hj
  rcases h3 with ⟨rfl,rfl⟩ | h3
  ·simp at hj'
  ·rw [h3] at hg
   cases hg
   have:=h4 j hj'
   simpa [List.getD_eq_getElem?_getD,hj'] using this
def s8 (E : Env) (G : Gh) (B : Nat→AV) (kb n e cap : Nat) (ad : Option Addr) : Prop :=
 (10000≤kb∧kb < 1000000)∧((cap = n∧G.γ kb = none∧(B kb = .u∨B kb = .bt n e))∨∃ g,G.γ kb = some g∧ad = some ⟨g,0,none⟩∧cap = G.κ kb∧B kb = .bt n e)
theorem ie {l l' : List Value} {j : Nat} (h : j < l.length) : (l ++ l').getD j undef = l.getD j undef:=by
 simp [List.getD_eq_getElem?_getD,List.getElem?_append_left h]
theorem PCRel.append {Z : fV} {vs vs' : List Value} {cs cs' : List AV} (h : PCRel Z vs cs) (h' : PCRel Z vs' cs') : PCRel Z (vs ++ vs') (cs ++ cs'):=by
 have:=CRel.append (G:=⟨Z,fun _=>none,fun _=>0,fun _=>0⟩) (B:=fun _=>.u) (.of_pure h) (.of_pure h')
 exact ⟨this.1,fun j hj=>⟨iR (this.2 j hj).1,(this.2 j hj).2⟩⟩
theorem PCRel.mono {Z Z' : fV} (hZ : SealLe Z Z') {vs : List Value} {cs : List AV} (h : PCRel Z vs cs) : PCRel Z' vs cs:=⟨h.1,fun j hj=>⟨(h.2 j hj).1.mono hZ,(h.2 j hj).2⟩⟩
theorem ul {d kb n m e sz : Nat} {cs news : List AV} (hd : d < 10000) (hkb : 10000≤kb) (k : Nat) :
  be (ck σ [(kb,.bt (n + m) e),(d,.sl (cs ++ news) (n + m) (.tok kb))]) k = if d = k then .sl (cs ++ news) (n + m) (.tok kb) else if kb = k then .bt (n + m) e else be σ k:=by
 simp only [ck,bO]
theorem Sim.app (h : Sim E σ a w G) {d kb n m e sz : Nat} (hd : d < E.N∧d < 10000) {cs news : List AV} {ad : Option Addr} {cap : Nat} (hg : s8 E G (lm σ) kb n e cap ad) (hsz : E.P.cellsOf e = sz)
  {G' : Gh} (hle : SealLe G.Z G'.Z) (hγ : ∀ k,k ≠ kb→G'.γ k = G.γ k∧G'.κ k = G.κ k∧G'.β k = G.β k) (hsame : m = 0→G'.γ kb = G.γ kb∧G'.κ kb = G.κ kb)
  {w' : World} (hw : WStep E.Pr w w') (hzp : ∀ b o,E.Pr b→G'.Z b o = G.Z b o) (hag : ∀ b o v,G'.Z b o = some v→w'.cell? ⟨b,o,none⟩ = some v∧v.oneCell' = true)
  (hblk : ∀ k g,k ≠ kb→G.γ k = some g→w'.heap[g]? = w.heap[g]?∧G'.γ kb ≠ some g∧∀ o,G'.Z g o = G.Z g o)
  (hrow : ∀ g,G'.γ kb = some g→¬ E.Pr g∧zN E.P G' w' g (G'.κ kb) (n + m) e)
  {v : Value} {cap' : Nat} {ad' : Option Addr} (hv : v = .slice ad' (n + m) cap') (hp : PRel G'.Z (.slice ad' (n + m) cap') (.sl (cs ++ news) (n + m) .none)) (htok : lu G' kb ad' (n + m) cap') :
  Sim E (ck σ [(kb,.bt (n + m) e),(d,.sl (cs ++ news) (n + m) (.tok kb))]) (a.put (some d) v) w' G':=by
 subst hv
 have hkb:=hg.1.1
 have hm:=fun k=>ul (σ:=σ) (sz:=sz) (e:=e) (n:=n) (m:=m) (cs:=cs) (news:=news) hd.2 hkb k
 have hB : lm σ kb = .u∨lm σ kb = .bt n e:=by rcases hg.2 with ⟨_,_,h⟩ | ⟨g,_,_,_,h⟩;exact h;exact .inr h
 have hbox : ∀ k,10000≤k→lm (ck σ [(kb,.bt (n + m) e),(d,.sl (cs ++ news) (n + m) (.tok kb))]) k = if kb = k then .bt (n + m) e else lm σ k:=fA (fun k hk _=>by
  rw [hm,if_neg (by omega)]) hg.1.2 (by
   have e1 : lm σ kb = be σ kb:=ca hg.1.2
   rw [← e1]
   rcases hB with hB | hB <;> rw [hB] <;> rfl) rfl
 have hs : BStep G (lm σ) G' (lm (ck σ [(kb,.bt (n + m) e),(d,.sl (cs ++ news) (n + m) (.tok kb))])):=⟨hle,fun k hk=>by
  rw [hbox k hk]
  by_cases e1 : kb = k
  ·subst e1
   rw [if_pos rfl]
   rcases hB with hB | hB
   ·exact .u hB
   ·refine .bt hB rfl ?_
    by_cases hm0 : m = 0
    ·exact .inr ⟨by omega,hsame hm0⟩
    ·exact .inl (by omega)
  ·rw [if_neg e1]
   obtain ⟨g1,g2,g3⟩:=hγ k (fun h=>e1 h.symm)
   exact .same rfl g1 g2 g3⟩
 refine h.put (dst:=some d) (x:=.sl (cs ++ news) (n + m) (.tok kb)) (fun _ e=>by cases e;exact hd) hs ⟨hag,fun k g hk=>?_,fun k cs' ty hk hc=>?_,fun k k' g h1 h2=>?_,h.st.gl.mono hle⟩ hw hzp
  (.tok ad' (n + m) cap' (cs ++ news) kb (n + m) e hp hkb (by rw [hbox _ hkb,if_pos rfl]) (Nat.le_refl _) fun _=>htok) fun t ht=>?_
 ·by_cases e1 : k = kb
  ·subst e1
   obtain ⟨r1,r2⟩:=hrow g hk
   exact ⟨hkb,r1,.inr (.inl ⟨n + m,e,by rw [hbox _ hkb,if_pos rfl],r2⟩)⟩
  ·rw [(hγ k e1).1] at hk
   obtain ⟨h1,h2,h3⟩:=h.st.box k g hk
   obtain ⟨q1,_,q3⟩:=hblk k g e1 hk
   exact ⟨h1,h2,h3.step hs (by rw [hbox k h1,if_neg (fun h=>e1 h.symm)]) (hγ k e1).2.1 (hγ k e1).2.2 q1 q3⟩
 ·rw [hbox k hk] at hc
  by_cases e1 : kb = k
  ·rw [if_pos e1] at hc;cases hc
  ·rw [if_neg e1] at hc
   obtain ⟨g,hg⟩:=h.st.real k cs' ty hk hc
   exact ⟨g,(hγ k (fun h=>e1 h.symm)).1.trans hg⟩
 ·by_cases e1 : k = kb <;> by_cases e2 : k' = kb
  ·omega
  ·subst e1
   rw [(hγ k' e2).1] at h2
   exact absurd h1 (hblk k' g e2 h2).2.1
  ·subst e2
   rw [(hγ k e1).1] at h1
   exact absurd h2 (hblk k g e1 h1).2.1
  ·exact h.st.inj k k' g ((hγ k e1).1.symm.trans h1) ((hγ k' e2).1.symm.trans h2)
 ·rw [hm]
  by_cases e1 : d = t
  ·subst e1;simp
  ·rw [if_neg e1,if_neg (by omega),if_neg (by simpa using fun e'=>e1 e'.symm)]
theorem mt (h : Sim E σ a w G) {d kb n m e sz t t' ty : Nat} (hdst : o.dst = some d) (hd : d < E.N∧d < 10000) {cs news : List AV} {ad : Option Addr} {cap b off : Nat} {f : Nat→Value} (hs : SlAt G cs n ad cap b off f) (hl : cs.length = n * sz)
  (he : aT E.P t = some e) (hsz : bZ E.P e = some sz) (hsz0 : 0 < sz) {z : List Value} (hz : bw E.P e = some z) (hzl : z.length = sz) {desc : TypeDesc} (hu : E.P.underlying t' = some desc) (hdd : ∀ k,desc ≠ .int k)
  (hb : (n + m) * aP E.P e≤140737488355328) (h63 : n + m≤140737488355328)
  (hg : s8 E G (lm σ) kb n e cap ad) {x : Value} {vals : List Value} (hvals : PCRel G.Z vals news) (hnl : news.length = m * sz) (hlen : ∀ w' : World,(Builtin.lenOf x).run E.P w' = .ok m w')
  (hf : ∀ w' : World,w'.heap = w.heap→(Builtin.firstCells sz m x).run E.P w' = .ok vals.toArray w')
  (hrun : ∀ r : Result Value,(Builtin.append_ #[t,t'] ty #[.slice ad n cap,x]).run E.P w = r→(execOp a.eval o).run E.P w = r.andThen fun v w'=>.ok (.value v) w') :
  d6 E o σ a w [(kb,.bt (n + m) e),(d,.sl (cs ++ news) (n + m) (.tok kb))]:=fun Q=>by
 have hcells : E.P.cellsOf e = sz:=by unfold bZ at hsz;simp [Program.cellsOf,hsz]
 obtain ⟨olds,holds,hfo,hzo⟩:=m4 h hs hl
 have hlo : olds.length = n * sz:=holds.1.trans hl
 have hlv : vals.length = m * sz:=hvals.1.trans hnl
 have hkb:=hg.1.1
 unfold Oper.wp
 by_cases hgrow : cap < n + m
 ·
  obtain ⟨zs,hzs,hr⟩:=ix (P:=E.P) (w:=w) (ty:=ty) he hsz hu hdd hz (hlen w) (hf w.drew rfl) (hfo w.drew rfl) hgrow hb h63
  rw [hrun _ hr]
  simp only [Result.andThen,Oper.upon,hdst]
  have hz0 : ∀ o',G.Z w.heap.size o' = none:=fun o'=>gg h o'
  have hle : SealLe G.Z (cG G.Z w.heap.size 0 (olds ++ vals)):=fS fun o' _=>hz0 o'
  have hge : n + m≤grownCap w (n + m) cap e:=grownCap_ge w (n + m) cap e
  have hpc:=holds.append hvals
  have hblk : ∀ j,j < (olds ++ vals).length→(w.drew.alloc (.cells ((olds ++ vals).toArray ++ zs) e)).cell? ⟨w.heap.size,j,none⟩ = some ((olds ++ vals).getD j undef):=fun j hj=>by
   rw [cell_of_row _ w.heap.size j _ e _ (heap_alloc_new w.drew _)]
   have hj' : j < olds.length + vals.length:=by simpa using hj
   rw [Array.getElem?_append_left (by simpa using hj')]
   have hj2 : j < (olds ++ vals).length:=by simpa using hj'
   rw [List.getElem?_toArray,List.getD_eq_getElem?_getD,List.getElem?_eq_getElem hj2];rfl
  refine ⟨⟨cG G.Z w.heap.size 0 (olds ++ vals),fun k=>if k = kb then some w.heap.size else G.γ k,fun k=>if k = kb then grownCap w (n + m) cap e else G.κ k,G.β⟩,
   h.app (G':=⟨cG G.Z w.heap.size 0 (olds ++ vals),fun k=>if k = kb then some w.heap.size else G.γ k,fun k=>if k = kb then grownCap w (n + m) cap e else G.κ k,G.β⟩) (w':=w.drew.alloc (.cells ((olds ++ vals).toArray ++ zs) e)) hd hg hcells hle (fun k hk=>⟨if_neg hk,if_neg hk,rfl⟩) (fun hm0=>?_) ⟨rfl,rfl,rfl,by simp,fun b _ hb=>heap_alloc_old w.drew _ hb⟩ (fun b o' hb=>if_neg (by rintro ⟨rfl,_⟩;exact kd h (Nat.le_refl _) hb)) (fun b' o' v' hz'=>?_) (fun k g hk hg'=>⟨heap_alloc_old w.drew _ (ew h hg'),?_,fun o'=>?_⟩) (fun g hg'=>?_) rfl ?_ ?_⟩
  ·rcases hg.2 with ⟨hc,_⟩ | ⟨g,hγ,hadg,hκ,hBt⟩
   ·omega
   ·obtain ⟨_,_,hbx⟩:=h.st.box kb g hγ
    have:=hs.1
    omega
  ·rcases iV hz' with ⟨rfl,_,h2,rfl⟩ | hz'
   ·exact ⟨by simpa using hblk (o' - 0) h2,(hpc.2 (o' - 0) (by rw [← hpc.1];exact h2)).2⟩
   ·have:=h.st.agree b' o' v' hz'
    exact ⟨(World.cell?_of_block (a:=⟨b',o',none⟩) (heap_alloc_old w.drew _ (iX h hz'))).trans this.1,this.2⟩
  ·intro e1
   have e2 : some w.heap.size = some g:=(if_pos rfl).symm.trans e1
   cases e2
   exact absurd (ew h hg') (Nat.lt_irrefl _)
  ·show cG G.Z w.heap.size 0 (olds ++ vals) g o' = G.Z g o'
   unfold cG
   rw [if_neg]
   rintro ⟨rfl,_⟩;exact absurd (ew h hg') (Nat.lt_irrefl _)
  ·have e2 : some w.heap.size = some g:=(if_pos rfl).symm.trans hg'
   cases e2
   refine ⟨kd h (Nat.le_refl _),_,heap_alloc_new w.drew _,?_,?_,?_,fun o' ho'=>?_⟩
   ·show n + m≤if kb = kb then grownCap w (n + m) cap e else G.κ kb
    rw [if_pos rfl];exact hge
   ·show (if kb = kb then grownCap w (n + m) cap e else G.κ kb)≤maxLen
    rw [if_pos rfl];exact grownCap_le_maxLen w _ _ _ (by unfold maxLen;omega)
   ·show _ = (if kb = kb then grownCap w (n + m) cap e else G.κ kb) * _
    rw [if_pos rfl,hcells]
    simp only [Array.size_append,List.size_toArray,List.length_append,hlo,hlv,hzs,hzl,← Nat.add_mul]
    congr 1;omega
   ·rw [hcells] at ho'
    show cG G.Z w.heap.size 0 (olds ++ vals) w.heap.size o' = none
    unfold cG
    rw [if_neg (by simp [hlo,hlv,← Nat.add_mul];omega),hz0]
  ·refine .sl _ w.heap.size 0 _ _ .none _ (fun j=>(olds ++ vals).getD j undef) (.inl rfl) hge (fun e=>by cases e) (.inr rfl) (fun j hj=>fR (by rw [hpc.1];exact hj)) fun j hj=>((hpc.mono hle).2 j hj).1
  ·exact ⟨fun e=>(by have e' : some w.heap.size = none:=(if_pos rfl).symm.trans e;cases e'),fun g e=>⟨by have e' : some w.heap.size = some g:=(if_pos rfl).symm.trans e;cases e';rfl,(if_pos rfl).symm⟩⟩
 ·have hroom : n + m≤cap:=by omega
  rcases hg.2 with ⟨hc,hγ,hBt⟩ | ⟨g,hγ,hadg,hκ,hBt⟩
  ·
   obtain rfl : m = 0:=by omega
   have hv0 : vals = []:=List.eq_nil_of_length_eq_zero (by omega)
   have hn0 : news = []:=List.eq_nil_of_length_eq_zero (by omega)
   subst hv0;subst hn0
   have hr:=eP (P:=E.P) (w:=w) (ty:=ty) (base:=ad) (w':=w) he hsz hu hdd (hlen w) (hf w rfl) hroom (fun _ _=>rfl) (fun _=>rfl)
   rw [hrun _ hr]
   simp only [Result.andThen,Oper.upon,hdst]
   refine ⟨G,h.app hd hg hcells (.refl _) (fun k _=>⟨rfl,rfl,rfl⟩) (fun _=>⟨rfl,rfl⟩) (.refl _ _) (fun _ _ _=>rfl) h.st.agree (fun k g hk hg'=>⟨rfl,(fun e=>by rw [hγ] at e;cases e),fun _=>rfl⟩) (fun g hg'=>by rw [hγ] at hg';cases hg') rfl ?_ ⟨fun _=>by omega,fun g hg'=>by rw [hγ] at hg';cases hg'⟩⟩
   simp only [List.append_nil,Nat.add_zero]
   exact .sl ad b off n cap .none cs f (.inl rfl) hs.1 hs.2.1 hs.2.2.1 hs.2.2.2.1 hs.2.2.2.2
  ·
   subst hadg
   obtain ⟨_,hpr,hbx⟩:=h.st.box kb g hγ
   rcases hbx with ⟨_,_,hB',_⟩ | ⟨n',e',hB',c,hc1,hc2,hc3,hc4,hc5⟩ | ⟨_,_,_,_,hB',_⟩
   ·rw [hBt] at hB';cases hB'
   rotate_left
   ·rw [hBt] at hB';cases hB'
   rw [hBt] at hB';cases hB'
   rw [← hκ] at hc2 hc3 hc4
   rw [hcells] at hc4 hc5
   have hfit : n * sz + vals.length≤c.size:=by rw [hlv,hc4,← Nat.add_mul];exact Nat.mul_le_mul_right _ hroom
   have hst:=run_storeCells_at E.P g (n * sz) e vals 0 c w hc1 (by simpa using hfit) (fun u hu=>by
    obtain ⟨j,hj,rfl⟩:=List.getElem_of_mem hu
    have:=(hvals.2 j (by rw [← hvals.1];exact hj)).2
    rw [List.getD_eq_getElem?_getD,List.getElem?_eq_getElem hj] at this
    exact this)
   simp only [Nat.add_zero] at hst
   have hr:=eP (P:=E.P) (w:=w) (ty:=ty) (base:=some ⟨g,0,none⟩) he hsz hu hdd (hlen w) (hf w rfl) hroom (fun a' ha=>by cases ha;rw [Addr.add_mid,Nat.zero_add];exact hst) (fun e=>by cases e)
   rw [hrun _ hr]
   simp only [Result.andThen,Oper.upon,hdst]
   have hle : SealLe G.Z (cG G.Z g (n * sz) vals):=fS hc5
   have hrowcell:=setRow_heap w g c (c.toList.take (n * sz) ++ vals ++ c.toList.drop (n * sz + vals.length)).toArray e (0,0) hc1
   refine ⟨⟨cG G.Z g (n * sz) vals,G.γ,G.κ,G.β⟩,h.app (G':=⟨cG G.Z g (n * sz) vals,G.γ,G.κ,G.β⟩) (w':=w.setRow g (c.toList.take (n * sz) ++ vals ++ c.toList.drop (n * sz + vals.length)).toArray) hd hg hcells hle (fun k _=>⟨rfl,rfl,rfl⟩) (fun _=>⟨rfl,rfl⟩) ⟨rfl,rfl,rfl,by simp [World.setRow],fun b' hb' _=>setRow_other w g b' _ (fun e=>hpr (e ▸ hb'))⟩ (fun b o' hb=>if_neg (by rintro ⟨rfl,_⟩;exact hpr hb)) (fun b' o' v' hz'=>?_) (fun k g' hk hg'=>⟨setRow_other w g g' _ fun e1=>hk (h.st.inj k kb g (e1 ▸ hg') hγ),fun e1=>?_,fun o'=>?_⟩) (fun g' hg'=>?_) rfl ?_ ?_⟩
   ·rcases iV hz' with ⟨rfl,h1,h2,rfl⟩ | hz2
    ·refine ⟨?_,(hvals.2 _ (by rw [← hvals.1];exact h2)).2⟩
     rw [cell_of_row _ b' o' _ e _ hrowcell]
     have h3 : (c.toList.take (n * sz)).length = n * sz:=by simp;omega
     rw [List.getElem?_toArray,List.append_assoc,List.getElem?_append_right (by omega),h3,List.getElem?_append_left h2]
     simp [List.getD_eq_getElem?_getD,h2]
    ·have hag:=h.st.agree b' o' v' hz2
     refine ⟨?_,hag.2⟩
     by_cases hb' : b' = g
     ·subst hb'
      have ho' : o' < n * sz:=by
       rcases Nat.lt_or_ge o' (n * sz) with h1 | h1
       ·exact h1
       ·rw [hc5 o' h1] at hz2;cases hz2
      have h4:=hag.1
      rw [cell_of_row _ b' o' _ e _ hc1] at h4
      rw [cell_of_row _ b' o' _ e _ hrowcell,List.getElem?_toArray,List.append_assoc,List.getElem?_append_left (by simp;omega),List.getElem?_take,if_pos ho']
      simpa using h4
     ·exact (World.cell?_of_block (a:=⟨b',o',none⟩) (setRow_other w g b' _ hb')).trans hag.1
   ·have e1' : G.γ kb = some g':=e1
    exact hk (h.st.inj k kb g' hg' e1')
   ·show cG G.Z g (n * sz) vals g' o' = G.Z g' o'
    unfold cG
    rw [if_neg]
    rintro ⟨rfl,_⟩;exact hk (h.st.inj k kb _ hg' hγ)
   ·have e1 : G.γ kb = some g':=hg'
    rw [hγ] at e1;cases e1
    refine ⟨hpr,_,hrowcell,hκ ▸ hroom,hκ ▸ hc3,?_,fun o' ho'=>?_⟩
    ·rw [hcells,← hκ,← hc4];simp;omega
    ·rw [hcells] at ho'
     show cG G.Z g (n * sz) vals g o' = none
     have h2 : n * sz≤o':=Nat.le_trans (Nat.mul_le_mul_right _ (by omega)) ho'
     unfold cG
     rw [if_neg (by rw [hlv,← Nat.add_mul];omega),hc5 o' h2]
   ·have hpc:=holds.append hvals
    refine .sl _ g 0 _ _ .none _ (fun j=>(olds ++ vals).getD j undef) (.inl rfl) hroom (fun e=>by cases e) (.inr rfl) (fun j hj=>?_) fun j hj=>((hpc.mono hle).2 j hj).1
    rw [Nat.zero_add]
    have hj' : j < olds.length + vals.length:=by rw [← hpc.1] at hj;simpa using hj
    by_cases hjo : j < olds.length
    ·rw [ie hjo]
     exact hle _ _ _ (hzo g rfl j hjo)
    ·have:=fR (Z:=G.Z) (g:=g) (lo:=n * sz) (vs:=vals) (j:=j - olds.length) (by omega)
     rw [show n * sz + (j - olds.length) = j by omega] at this
     refine this.trans ?_
     simp [List.getD_eq_getElem?_getD,List.getElem?_append_right (show olds.length≤j by omega)]
   ·exact ⟨fun e1=>(by have e2 : G.γ kb = none:=e1;rw [hγ] at e2;cases e2),fun g' e1=>⟨by have e2 : G.γ kb = some g':=e1;rw [hγ] at e2;cases e2;rfl,hκ⟩⟩
theorem jM (cs : List AV) (off k : Nat) : dz cs off k = (cs.drop off).take k:=by
 unfold dz
 split
 ·rename_i h;rw [h.1,List.drop_zero,← h.2,List.take_length]
 ·rfl
theorem fQ {cs : List AV} {off k : Nat} (h : off + k≤cs.length) : (dz cs off k).length = k:=by rw [jM];simp;omega
theorem Sim.ext' {σ σ' : bv} {a : Act} {w : World} {G : Gh} (h : Sim E σ a w G) (he : ∀ k,be σ' k = be σ k) : Sim E σ' a w G:=by
 have hf : be σ' = be σ:=funext he
 have hl : lm σ' = lm σ:=by unfold lm;rw [hf]
 exact ⟨h.defers,h.tsize,fun t ht=>by rw [hl,he];exact h.slots t ht,by rw [hl];exact h.st,h.fr,by rw [hl];exact h.step,h.zp⟩
theorem Sim.rowIn (h : Sim E σ a w G) {σ' : bv} {b : Nat} {e sz : Nat} (hb : 10000≤b) (hu : lm σ b = .u) (hnew : lm σ' b = .br [] 0 e sz) (hoth : ∀ j,10000≤j→j ≠ b→lm σ' j = lm σ j∨i7 (lm σ j) = true∧i7 (lm σ' j) = true) (hsl : ∀ t,t < 10000→be σ' t = be σ t) :
  Sim E σ' a w G∧G.γ b = none:=by
 have hγ : G.γ b = none:=by
  cases hg : G.γ b with
  | none=>rfl
  | some g=>exact ((h.st.box b g hg).2.2.not_u hu).elim
 have hst : BStep G (lm σ) G (lm σ'):=⟨.refl _,fun k hk=>by
  by_cases h1 : k = b
  ·subst h1;exact .u hu
  ·rcases hoth k hk h1 with e2 | ⟨e2,_⟩
   ·exact .same e2 rfl rfl rfl
   ·exact .fo e2⟩
 refine ⟨⟨h.defers,h.tsize,fun k hk=>?_,⟨h.st.agree,fun k g hk=>?_,fun k cs' ty hk hc=>?_,h.st.inj,h.st.gl⟩,h.fr,h.step.trans hst,h.zp⟩,hγ⟩
 ·rw [hsl k hk];exact (h.slots k hk).step hst
 ·obtain ⟨h1,h2,h3⟩:=h.st.box k g hk
  have hne : k ≠ b:=fun h4=>by rw [h4,hγ] at hk;cases hk
  rcases hoth k h1 hne with e2 | ⟨e2,_⟩
  ·exact ⟨h1,h2,h3.step hst e2 rfl rfl rfl fun _=>rfl⟩
  ·exact (h3.not_fo e2).elim
 ·by_cases h1 : k = b
  ·rw [h1,hnew] at hc;cases hc
  ·rcases hoth k hk h1 with e2 | ⟨_,e2⟩
   ·rw [e2] at hc;exact h.st.real k cs' ty hk hc
   ·rw [hc] at e2;cases e2
theorem Sim.newRow (h : Sim E σ a w G) {b : Nat} (e sz : Nat) (hb : 10000≤b) (hb2 : b < 20000) (hu : be σ b = .u) : Sim E (cC σ b (.br [] 0 e sz)) a w G∧G.γ b = none:=by
 have hlm : ∀ k,10000≤k→lm (cC σ b (.br [] 0 e sz)) k = if b = k then .br [] 0 e sz else lm σ k:=fA (fun k _ _=>bO ..) (by omega) (by rw [hu];rfl) rfl
 refine h.rowIn (e:=e) (sz:=sz) hb ((ca (by omega)).trans hu) ((hlm b hb).trans (if_pos rfl)) (fun j hj hne=>.inl ((hlm j hj).trans (if_neg (fun e=>hne e.symm)))) fun t ht=>?_
 rw [bO,if_neg (by omega)]
theorem Sim.newRowF (h : Sim E σ a w G) {b : Nat} {rows : List AV} (e sz : Nat) (hb : 10000≤b) (hb2 : b < 20000) (hB : be σ b = .fo rows) :
  Sim E (cC σ b (.fo (rows ++ [.br [] 0 e sz]))) a w G∧G.γ (enc b rows.length) = none∧be (cC σ b (.fo (rows ++ [.br [] 0 e sz]))) b = .fo (rows ++ [.br [] 0 e sz])∧lm (cC σ b (.fo (rows ++ [.br [] 0 e sz]))) (enc b rows.length) = .br [] 0 e sz:=by
 have hm : ∀ k,be (cC σ b (.fo (rows ++ [.br [] 0 e sz]))) k = if b = k then .fo (rows ++ [.br [] 0 e sz]) else be σ k:=fun k=>bO ..
 have hb3 : b < 1000000:=by omega
 have hmb : be (cC σ b (.fo (rows ++ [.br [] 0 e sz]))) b = .fo (rows ++ [.br [] 0 e sz]):=(hm b).trans (if_pos rfl)
 have hnew : lm (cC σ b (.fo (rows ++ [.br [] 0 e sz]))) (enc b rows.length) = .br [] 0 e sz:=by
  show lk _ _ = _
  rw [mH _ hb hb3,hmb]
  simp [dv,gU,List.getD_eq_getElem?_getD]
 have hu : lm σ (enc b rows.length) = .u:=by
  show lk _ _ = _
  rw [mH _ hb hb3,hB]
  simp [dv,gU,List.getD_eq_getElem?_getD]
 have hge : 10000≤enc b rows.length:=by unfold enc;exact Nat.le_trans (by decide : 10000≤1000000) (Nat.le_add_right ..)
 have hsep : ∀ j,¬ j < 1000000→b = df j→j ≠ enc b rows.length→d7 j ≠ rows.length:=fun j hj1 e1 hne e2=>hne (by rw [← iD hj1,← e1,e2])
 have hbl : ¬ enc b rows.length < 1000000:=gq _ _
 generalize enc b rows.length = kk at *
 have hoth : ∀ j,10000≤j→j ≠ kk→lm (cC σ b (.fo (rows ++ [.br [] 0 e sz]))) j = lm σ j∨i7 (lm σ j) = true∧i7 (lm (cC σ b (.fo (rows ++ [.br [] 0 e sz]))) j) = true:=fun j hj hne=>by
  unfold lm
  by_cases hj1 : j < 1000000
  ·rw [ca hj1,ca hj1,hm]
   by_cases e1 : b = j
   ·subst e1
    right;rw [if_pos rfl,hB];exact ⟨rfl,rfl⟩
   ·left;rw [if_neg e1]
  ·left
   unfold lk
   rw [if_neg hj1,if_neg hj1,hm]
   by_cases e1 : b = df j
   ·rw [if_pos e1,← e1,hB]
    have hne2:=hsep j hj1 e1 hne
    have e3 : dv (.fo (rows ++ [.br [] 0 e sz])) (d7 j) = dv (.fo rows) (d7 j):=by
     simp only [dv,gU,List.getD_eq_getElem?_getD]
     by_cases hlt : d7 j < rows.length
     ·rw [List.getElem?_append_left hlt]
     ·rw [List.getElem?_eq_none (by simp;omega),List.getElem?_eq_none (by omega)]
    rw [e3]
   ·rw [if_neg e1]
 obtain ⟨h1,h2⟩:=h.rowIn hge hu hnew hoth (fun t ht=>by rw [hm,if_neg (by omega)])
 exact ⟨h1,h2,hmb,hnew⟩
theorem Sim.appRow (h : Sim E σ a w G) {d kb n m v e sz : Nat} (hd : d < E.N∧d < 10000) {cs0 cs' : List AV} {wr : List AV→Nat→Nat × AV} (hkb : 10000≤kb) (hB : lm σ kb = .br cs0 v e sz) (hwr : nE σ kb e sz wr)
  {G' : Gh} (hZ : G'.Z = G.Z) (hγ : ∀ k,k ≠ kb→G'.γ k = G.γ k∧G'.κ k = G.κ k∧G'.β k = G.β k) (hsame : m = 0→G'.γ kb = G.γ kb∧G'.κ kb = G.κ kb∧G'.β kb = G.β kb)
  {w' : World} (hw : WStep E.Pr w w') (hag : ∀ b o v,G.Z b o = some v→w'.cell? ⟨b,o,none⟩ = some v∧v.oneCell' = true)
  (hblk : ∀ k g,k ≠ kb→G.γ k = some g→w'.heap[g]? = w.heap[g]?∧G'.γ kb ≠ some g)
  (hrow : ∀ g,G'.γ kb = some g→¬ E.Pr g∧∃ c,w'.heap[g]? = some (.cells c e (0,0))∧c.size = G'.β kb + G'.κ kb∧sz = E.P.cellsOf e∧cs'.length≤G'.κ kb∧(∀ o,G.Z g o = none) ∧
   ∀ j (h : j < cs'.length),VRel G (lm σ) (c.getD (G'.β kb + j) undef) cs'[j]∧(c.getD (G'.β kb + j) undef).oneCell' = true)
  {cap' : Nat} {ad' : Option Addr} (hn : n + m≤cap') (ha : ad' = none→cap' = 0) (how : nr G' kb 0 sz ad' cap') :
  Sim E (ck σ [wr cs' (v + m),(d,.ow kb 0 (n + m) (v + m))]) (a.put (some d) (.slice ad' (n + m) cap')) w' G':=by
 obtain ⟨hm,hnew,hoth⟩:=hwr cs' (v + m) [(d,.ow kb 0 (n + m) (v + m))] (fun p hp=>by simp at hp;subst hp;exact hd.2)
 have hmd : ∀ t,be (ck σ [(d,.ow kb 0 (n + m) (v + m))]) t = if d = t then .ow kb 0 (n + m) (v + m) else be σ t:=fun t=>by simp only [ck,bO]
 have hs : BStep G (lm σ) G' (lm (ck σ [wr cs' (v + m),(d,.ow kb 0 (n + m) (v + m))])):=⟨by rw [hZ];exact .refl _,fun k hk=>by
  by_cases e1 : k = kb
  ·subst e1
   refine .br hB hnew ?_
   by_cases hm0 : m = 0
   ·exact .inr ⟨by omega,hsame hm0⟩
   ·exact .inl (by omega)
  ·obtain ⟨g1,g2,g3⟩:=hγ k e1
   rcases hoth k hk e1 with e2 | ⟨e2,_⟩
   ·exact .same e2 g1 g2 g3
   ·exact .fo e2⟩
 refine h.put (dst:=some d) (x:=.ow kb 0 (n + m) (v + m)) (fun _ e=>by cases e;exact hd) hs ⟨by rw [hZ];exact hag,fun k g hk=>?_,fun k cs' ty hk hc=>?_,fun k k' g h1 h2=>?_,by rw [hZ];exact h.st.gl⟩ hw (fun b o _=>by rw [hZ])
  (.ow ad' (n + m) cap' kb 0 (v + m) cs' (v + m) e sz hkb hnew hn ha (Nat.le_refl _) fun _=>how) fun t ht=>?_
 ·by_cases e1 : k = kb
  ·subst e1
   obtain ⟨r1,c,r2,r3,r4,r5,r6,r7⟩:=hrow g hk
   exact ⟨hkb,r1,.inr (.inr ⟨cs',v + m,e,sz,hnew,c,r2,r3,r4,r5,by rw [hZ];exact r6,fun j hj=>⟨(r7 j hj).1.step hs,(r7 j hj).2⟩⟩)⟩
  ·rw [(hγ k e1).1] at hk
   obtain ⟨h1,h2,h3⟩:=h.st.box k g hk
   obtain ⟨q1,_⟩:=hblk k g e1 hk
   rcases hoth k h1 e1 with e2 | ⟨e2,_⟩
   ·exact ⟨h1,h2,h3.step hs e2 (hγ k e1).2.1 (hγ k e1).2.2 q1 fun o=>by rw [hZ]⟩
   ·exact (h3.not_fo e2).elim
 ·by_cases e1 : k = kb
  ·rw [e1,hnew] at hc;cases hc
  ·rcases hoth k hk e1 with e2 | ⟨_,e2⟩
   ·rw [e2] at hc
    obtain ⟨g,hg⟩:=h.st.real k cs' ty hk hc
    exact ⟨g,(hγ k e1).1.trans hg⟩
   ·rw [hc] at e2;cases e2
 ·by_cases e1 : k = kb <;> by_cases e2 : k' = kb
  ·omega
  ·subst e1
   rw [(hγ k' e2).1] at h2
   exact absurd h1 (hblk k' g e2 h2).2
  ·subst e2
   rw [(hγ k e1).1] at h1
   exact absurd h2 (hblk k g e1 h1).2
  ·exact h.st.inj k k' g ((hγ k e1).1.symm.trans h1) ((hγ k' e2).1.symm.trans h2)
 ·rw [hm t ht,hmd]
  by_cases e1 : d = t
  ·subst e1;simp
  ·rw [if_neg e1,if_neg (by simpa using fun e'=>e1 e'.symm)]
theorem tN (h : Sim E σ a w G) {b off n sz v e : Nat} {cs : List AV} {ad : Option Addr} {cap : Nat} (hB : lm σ b = .br cs v e sz) (hn : n≤cap) (how : nr G b off sz ad cap) (hl : off + n * sz≤cs.length) :
  ∃ vals : List Value,CRel G (lm σ) vals (dz cs off (n * sz))∧(∀ w' : World,w'.heap = w.heap→(Builtin.firstCells sz n (.slice ad n cap)).run E.P w' = .ok vals.toArray w') ∧
   (∀ g c,G.γ b = some g→w.heap[g]? = some (.cells c e (0,0))→∀ j,j < n * sz→vals.getD j undef = c.getD (G.β b + off + j) undef):=by
 by_cases h0 : n = 0
 ·subst h0
  refine ⟨[],by rw [jM];simpa using CRel.nil G (lm σ),fun w' _=>?_,fun g c _ _ j hj=>by omega⟩
  cases ad <;> simp [Builtin.firstCells,loadCells,loadCellsFrom]
 cases hγ : G.γ b with
 | none=>have:=how.1 hγ;omega
 | some g =>
  obtain ⟨h1,h2⟩:=how.2 g hγ
  have h2 : ad = some ⟨g,G.β b + off,none⟩:=h2.resolve_left (by omega)
  subst h2
  obtain ⟨⟨c,hc,hsz,hce,hle,hz,hr⟩,_⟩:=eO h hB hγ
  refine ⟨(List.range (n * sz)).map fun j=>c.getD (G.β b + off + j) undef,⟨by rw [fQ hl];simp,fun j hj=>?_⟩,fun w' hw'=>?_,fun g' c' hg' hc' j hj=>?_⟩
  ·rw [fQ hl] at hj
   have:=hr (off + j) (by omega)
   have e1 : (dz cs off (n * sz))[j]'(by rw [fQ hl];exact hj) = cs[off + j]'(by omega):=by
    simp only [jM,List.getElem_take,List.getElem_drop]
   rw [e1]
   simpa [List.getD_eq_getElem?_getD,hj,Nat.add_assoc] using this
  ·refine run_firstCells_some (P:=E.P) w' sz n ⟨g,G.β b + off,none⟩ n cap _ (by simp) fun j v hj=>?_
   rw [Addr.add_mid]
   obtain ⟨q1,q2⟩:=List.getElem?_eq_some_iff.1 hj
   have q1' : j < n * sz:=by simpa using q1
   rw [cell_of_row w' g (G.β b + off + j) c e (0,0) (by rw [hw'];exact hc)]
   have q3 : G.β b + off + j < c.size:=by omega
   simp at q2
   rw [← q2]
   simp [Array.getD_eq_getD_getElem?,q3]
  ·cases hg'
   rw [hc] at hc';cases hc'
   simp [List.getD_eq_getElem?_getD,hj]
theorem jl (h : Sim E σ a w G) {d kb off n m v e sz t t' ty : Nat} (hdst : o.dst = some d) (hd : d < E.N∧d < 10000) {cs0 news : List AV} {ad : Option Addr} {cap : Nat} {wr : List AV→Nat→Nat × AV} (hkb : 10000≤kb) (hB : lm σ kb = .br cs0 v e sz) (hwr : nE σ kb e sz wr)
  (hn : n≤cap) (had : ad = none→cap = 0) (how : nr G kb off sz ad cap) (hl : off + n * sz≤cs0.length) (h0m : 0 < m∨(off = 0∧cs0.length = n * sz))
  (he : aT E.P t = some e) (hsz : bZ E.P e = some sz) (hsz0 : 0 < sz) {z : List Value} (hz : bw E.P e = some z) (hzl : z.length = sz) {desc : TypeDesc} (hu : E.P.underlying t' = some desc) (hdd : ∀ k,desc ≠ .int k)
  (hb : (n + m) * aP E.P e≤140737488355328) (h63 : n + m≤140737488355328)
  {x : Value} {vals : List Value} (hvals : CRel G (lm σ) vals news) (hnl : news.length = m * sz) (hlen : ∀ w' : World,(Builtin.lenOf x).run E.P w' = .ok m w')
  (hf : ∀ w' : World,w'.heap = w.heap→(Builtin.firstCells sz m x).run E.P w' = .ok vals.toArray w')
  (hrun : ∀ r : Result Value,(Builtin.append_ #[t,t'] ty #[.slice ad n cap,x]).run E.P w = r→(execOp a.eval o).run E.P w = r.andThen fun v w'=>.ok (.value v) w') :
  d6 E o σ a w [wr (dz cs0 off (n * sz) ++ news) (v + m),(d,.ow kb 0 (n + m) (v + m))]:=fun Q=>by
 have hcells : E.P.cellsOf e = sz:=by unfold bZ at hsz;simp [Program.cellsOf,hsz]
 obtain ⟨olds,holds,hfo,holdc⟩:=tN h hB hn how hl
 have hlo : olds.length = n * sz:=holds.1.trans (fQ hl)
 have hlv : vals.length = m * sz:=hvals.1.trans hnl
 have hcl : (dz cs0 off (n * sz) ++ news).length = (n + m) * sz:=by rw [List.length_append,fQ hl,hnl,Nat.add_mul]
 have hpc:=holds.append hvals
 unfold Oper.wp
 by_cases hgrow : cap < n + m
 ·
  obtain ⟨zs,hzs,hr⟩:=ix (P:=E.P) (w:=w) (ty:=ty) he hsz hu hdd hz (hlen w) (hf w.drew rfl) (hfo w.drew rfl) hgrow hb h63
  rw [hrun _ hr]
  simp only [Result.andThen,Oper.upon,hdst]
  have hz0 : ∀ o',G.Z w.heap.size o' = none:=fun o'=>gg h o'
  have hge : n + m≤grownCap w (n + m) cap e:=grownCap_ge w (n + m) cap e
  generalize hgc : grownCap w (n + m) cap e = C at *
  refine ⟨⟨G.Z,fun k=>if k = kb then some w.heap.size else G.γ k,fun k=>if k = kb then C * sz else G.κ k,fun k=>if k = kb then 0 else G.β k⟩,
   h.appRow (m:=m) (G':=⟨G.Z,fun k=>if k = kb then some w.heap.size else G.γ k,fun k=>if k = kb then C * sz else G.κ k,fun k=>if k = kb then 0 else G.β k⟩) (w':=w.drew.alloc (.cells ((olds ++ vals).toArray ++ zs) e)) hd hkb hB hwr rfl (fun k hk=>⟨if_neg hk,if_neg hk,if_neg hk⟩) (fun hm0=>by omega) ⟨rfl,rfl,rfl,by simp,fun b _ hb=>heap_alloc_old w.drew _ hb⟩ (fun b' o' v' hz'=>?_) (fun k g hk hg'=>⟨heap_alloc_old w.drew _ (ew h hg'),?_⟩) (fun g hg'=>?_) hge (fun e=>by cases e) ?_⟩
  ·have:=h.st.agree b' o' v' hz'
   exact ⟨(World.cell?_of_block (a:=⟨b',o',none⟩) (heap_alloc_old w.drew _ (iX h hz'))).trans this.1,this.2⟩
  ·intro e1
   have e2 : some w.heap.size = some g:=(if_pos rfl).symm.trans e1
   cases e2
   exact absurd (ew h hg') (Nat.lt_irrefl _)
  ·have e2 : some w.heap.size = some g:=(if_pos rfl).symm.trans hg'
   cases e2
   refine ⟨kd h (Nat.le_refl _),_,heap_alloc_new w.drew _,?_,hcells.symm,?_,hz0,fun j hj=>?_⟩
   ·show _ = (if kb = kb then 0 else G.β kb) + (if kb = kb then C * sz else G.κ kb)
    rw [if_pos rfl,if_pos rfl,Nat.zero_add]
    simp only [Array.size_append,List.size_toArray,List.length_append,hlo,hlv,hzs,hzl,← Nat.add_mul]
    congr 1;omega
   ·show _≤if kb = kb then C * sz else G.κ kb
    rw [if_pos rfl,hcl];exact Nat.mul_le_mul_right _ hge
   ·have hβ0 : (if kb = kb then 0 else G.β kb) = 0:=if_pos rfl
    show VRel G _ (((olds ++ vals).toArray ++ zs).getD ((if kb = kb then 0 else G.β kb) + j) undef) _∧(((olds ++ vals).toArray ++ zs).getD ((if kb = kb then 0 else G.β kb) + j) undef).oneCell' = true
    rw [hβ0,Nat.zero_add]
    have hj2 : j < (olds ++ vals).length:=by rw [hpc.1];exact hj
    have e3 : ((olds ++ vals).toArray ++ zs).getD j undef = (olds ++ vals).getD j undef:=by
     rw [Array.getD_eq_getD_getElem?,Array.getElem?_append_left (by simpa using hj2),List.getElem?_toArray,List.getD_eq_getElem?_getD]
    rw [e3]
    exact hpc.2 j hj
  ·refine ⟨fun e=>(by have e' : some w.heap.size = none:=(if_pos rfl).symm.trans e;cases e'),fun g e=>⟨?_,.inr ?_⟩⟩
   ·show 0 + C * sz = if kb = kb then C * sz else G.κ kb
    rw [if_pos rfl,Nat.zero_add]
   ·have e' : some w.heap.size = some g:=(if_pos rfl).symm.trans e
    cases e'
    show _ = some (Addr.mk w.heap.size ((if kb = kb then 0 else G.β kb) + 0) none)
    rw [if_pos rfl]
 ·have hroom : n + m≤cap:=by omega
  have nothing : cap = 0→∃ G',Sim E (ck σ [wr (dz cs0 off (n * sz) ++ news) (v + m),(d,.ow kb 0 (n + m) (v + m))]) (a.put (some d) (.slice ad (n + m) cap)) w G':=fun hc0=>by
   have hm0 : m = 0:=by omega
   have hn0 : n = 0:=by omega
   subst hm0;subst hn0
   obtain ⟨rfl,_⟩:=h0m.resolve_left (by omega)
   refine ⟨G,h.appRow hd hkb hB hwr rfl (fun _ _=>⟨rfl,rfl,rfl⟩) (fun _=>⟨rfl,rfl,rfl⟩) (.refl _ _) h.st.agree (fun k g hk hg'=>⟨rfl,fun e1=>hk (h.st.inj k kb g hg' e1)⟩) (fun g hg'=>?_) hroom had how⟩
   obtain ⟨⟨c,hc,q2,q3,q4,q5,q6⟩,hpr⟩:=eO h hB hg'
   refine ⟨hpr,c,hc,q2,q3,by rw [hcl];simp,q5,fun j hj=>by rw [hcl] at hj;simp at hj⟩
  by_cases hc0 : cap = 0
  ·obtain rfl : m = 0:=by omega
   have hv0 : vals = []:=List.eq_nil_of_length_eq_zero (by omega)
   have hr:=eP (P:=E.P) (w:=w) (ty:=ty) (base:=ad) (w':=w) he hsz hu hdd (hlen w) (hf w rfl) hroom (fun _ _=>by rw [hv0];rfl) (fun _=>rfl)
   rw [hrun _ hr]
   simp only [Result.andThen,Oper.upon,hdst]
   exact nothing hc0
  cases hγ : G.γ kb with
  | none=>exact absurd (how.1 hγ) hc0
  | some g =>
   obtain ⟨h1,h2⟩:=how.2 g hγ
   have h2 : ad = some ⟨g,G.β kb + off,none⟩:=h2.resolve_left hc0
   subst h2
   obtain ⟨⟨c,hc,hcs,hce,hle,hz0,hcr⟩,hpr⟩:=eO h hB hγ
   have hfit2 : (n + m) * sz≤cap * sz:=Nat.mul_le_mul_right _ hroom
   rw [Nat.add_mul] at hfit2
   have hst:=run_storeCells_at E.P g (G.β kb + off + n * sz) e vals 0 c w hc (by omega) (fun u hu=>by
    obtain ⟨j,hj,rfl⟩:=List.getElem_of_mem hu
    have:=(hvals.2 j (by rw [← hvals.1];exact hj)).2
    rw [List.getD_eq_getElem?_getD,List.getElem?_eq_getElem hj] at this
    exact this)
   simp only [Nat.add_zero] at hst
   have hr:=eP (P:=E.P) (w:=w) (ty:=ty) (base:=some ⟨g,G.β kb + off,none⟩) he hsz hu hdd (hlen w) (hf w rfl) hroom (fun a' ha=>by cases ha;rw [Addr.add_mid];exact hst) (fun e=>by cases e)
   rw [hrun _ hr]
   simp only [Result.andThen,Oper.upon,hdst]
   have hct : c.toList.length = c.size:=Array.length_toList ..
   have hrowcell:=setRow_heap w g c (c.toList.take (G.β kb + off + n * sz) ++ vals ++ c.toList.drop (G.β kb + off + n * sz + vals.length)).toArray e (0,0) hc
   have hget : ∀ j,j < (olds ++ vals).length→(c.toList.take (G.β kb + off + n * sz) ++ vals ++ c.toList.drop (G.β kb + off + n * sz + vals.length)).toArray.getD (G.β kb + off + j) undef = (olds ++ vals).getD j undef:=fun j hj=>by
    have hj' : j < olds.length + vals.length:=by simpa using hj
    by_cases hjo : j < n * sz
    ·rw [ie (by omega),holdc g c hγ hc j hjo]
     simp only [Array.getD_eq_getD_getElem?,List.getElem?_toArray,List.getElem?_append,List.length_append,List.length_take,List.getElem?_take]
     simp only [if_true,show G.β kb + off + j < min (G.β kb + off + n * sz) c.toList.length + vals.length by omega,show G.β kb + off + j < min (G.β kb + off + n * sz) c.toList.length by omega,show G.β kb + off + j < G.β kb + off + n * sz by omega]
     simp
    ·simp only [Array.getD_eq_getD_getElem?,List.getElem?_toArray,List.getElem?_append,List.length_append,List.length_take,List.getD_eq_getElem?_getD]
     simp only [if_true,if_false,show G.β kb + off + j < min (G.β kb + off + n * sz) c.toList.length + vals.length by omega,show ¬ G.β kb + off + j < min (G.β kb + off + n * sz) c.toList.length by omega,show ¬ j < olds.length by omega,show G.β kb + off + j - min (G.β kb + off + n * sz) c.toList.length = j - olds.length by omega]
   have hκ0 : (if kb = kb then G.κ kb - off else G.κ kb) = G.κ kb - off:=if_pos rfl
   have hβ0 : (if kb = kb then G.β kb + off else G.β kb) = G.β kb + off:=if_pos rfl
   refine ⟨⟨G.Z,G.γ,fun k=>if k = kb then G.κ kb - off else G.κ k,fun k=>if k = kb then G.β kb + off else G.β k⟩,
    h.appRow (G':=⟨G.Z,G.γ,fun k=>if k = kb then G.κ kb - off else G.κ k,fun k=>if k = kb then G.β kb + off else G.β k⟩) (w':=w.setRow g (c.toList.take (G.β kb + off + n * sz) ++ vals ++ c.toList.drop (G.β kb + off + n * sz + vals.length)).toArray) hd hkb hB hwr rfl (fun k hk=>⟨rfl,if_neg hk,if_neg hk⟩) (fun hm0=>?_) ⟨rfl,rfl,rfl,by simp [World.setRow],fun b' hb' _=>setRow_other w g b' _ (fun e=>hpr (e ▸ hb'))⟩ (fun b' o' v' hz'=>?_) (fun k g' hk hg'=>⟨setRow_other w g g' _ fun e1=>hk (h.st.inj k kb g (e1 ▸ hg') hγ),fun e1=>hk (h.st.inj k kb g' hg' e1)⟩) (fun g' hg'=>?_) hroom had ?_⟩
   ·obtain ⟨rfl,_⟩:=h0m.resolve_left (by omega)
    exact ⟨rfl,by show (if kb = kb then G.κ kb - 0 else G.κ kb) = _;rw [if_pos rfl,Nat.sub_zero],by show (if kb = kb then G.β kb + 0 else G.β kb) = _;rw [if_pos rfl,Nat.add_zero]⟩
   ·have hag:=h.st.agree b' o' v' hz'
    refine ⟨(World.cell?_of_block (a:=⟨b',o',none⟩) (setRow_other w g b' _ fun e1=>?_)).trans hag.1,hag.2⟩
    subst e1;rw [hz0] at hz';cases hz'
   ·have e1 : G.γ kb = some g':=hg'
    rw [hγ] at e1;cases e1
    refine ⟨hpr,_,hrowcell,?_,hce,?_,hz0,fun j hj=>?_⟩
    ·show _ = (if kb = kb then G.β kb + off else G.β kb) + (if kb = kb then G.κ kb - off else G.κ kb)
     rw [hκ0,hβ0]
     simp only [List.size_toArray,List.length_append,List.length_take,List.length_drop];omega
    ·show _≤if kb = kb then G.κ kb - off else G.κ kb
     rw [hκ0,hcl,Nat.add_mul];omega
    ·show VRel G _ ((c.toList.take (G.β kb + off + n * sz) ++ vals ++ c.toList.drop (G.β kb + off + n * sz + vals.length)).toArray.getD ((if kb = kb then G.β kb + off else G.β kb) + j) undef) _∧((c.toList.take (G.β kb + off + n * sz) ++ vals ++ c.toList.drop (G.β kb + off + n * sz + vals.length)).toArray.getD ((if kb = kb then G.β kb + off else G.β kb) + j) undef).oneCell' = true
     rw [hβ0,hget j (by rw [hpc.1];exact hj)]
     exact hpc.2 j hj
   ·refine ⟨fun e1=>(by have e2 : G.γ kb = none:=e1;rw [hγ] at e2;cases e2),fun g' e1=>⟨?_,.inr ?_⟩⟩
    ·show 0 + cap * sz = if kb = kb then G.κ kb - off else G.κ kb
     rw [hκ0];omega
    ·have e2 : G.γ kb = some g':=e1
     rw [hγ] at e2;cases e2
     show _ = some (Addr.mk g ((if kb = kb then G.β kb + off else G.β kb) + 0) none)
     rw [hβ0,Nat.add_zero]
theorem sU (h : Sim E σ a w G) {t t' ty : TypeId} {s x : Operand} {args : Array Operand} {ts : Array TypeId} (ha : args.toList = [s,x]) (ht : ts.toList = [t,t']) (ho : o.op = .call { callee:=.builtin .append,args:=args,argTypes:=ts }) :
  Snd E.P σ (rdo s fun va=>rdo x fun vb=>yh E.P E.N o t t' va vb) (d6 E o σ a w):=by
 obtain rfl : args = #[s,x]:=by cases args;simp at ha;simp [ha]
 obtain rfl : ts = #[t,t']:=by cases ts;simp at ht;simp [ht]
 refine .rdo h fun va hva=>.rdo h fun vb hvb=>?_
 have main : ∀ {news : List AV} {m : Nat} {vals : List Value} {desc : TypeDesc},E.P.underlying t' = some desc→(∀ k,desc ≠ .int k)→(∀ e sz,aT E.P t = some e→bZ E.P e = some sz→news.length = m * sz →
   (CRel G (lm σ) vals news∧((∃ cs n own,va = .sl cs n own)→PCRel G.Z vals news))∧(∀ w' : World,w'.heap = w.heap→(Builtin.firstCells sz m (a.eval x)).run E.P w' = .ok vals.toArray w'))→(∀ w' : World,(Builtin.lenOf (a.eval x)).run E.P w' = .ok m w')→Snd E.P σ (gP E.P E.N o t va news m) (d6 E o σ a w):=fun {news m vals desc} hu hdd hv hlen=>by
  unfold gP
  split
  ·rename_i d e cs n own hdst he
   split
   rotate_left
   ·exact .fail
   rename_i sz z hsz hz
   refine .need fun ⟨hd,hsz0,hzl,hl,hnl,hb,h63⟩=>?_
   obtain ⟨⟨_,hvals0⟩,hf⟩:=hv e sz he hsz hnl
   have hvals:=hvals0 ⟨_,_,_,rfl⟩
   clear hvals0
   have hd' : d < E.N∧d < 10000:=by unfold c9 at hd;rw [hdst] at hd;exact hd
   obtain ⟨ad,cap,b,off,f,ev,hs,hfull,htok⟩:=dR hva
   have hrun : ∀ r : Result Value,(Builtin.append_ #[t,t'] o.type #[.slice ad n cap,a.eval x]).run E.P w = r→(execOp a.eval o).run E.P w = r.andThen fun v w'=>.ok (.value v) w':=fun r hr=>by
    simp only [execOp,ho,Sem.run_bind,resolve,invoke,builtin,Sem.run_pure,Result.andThen_ok,List.map_toArray,List.map_cons,List.map_nil,ev,hr]
   unfold o9
   split
   ·rename_i b'
    refine .rd ?_
    unfold pe
    split
    ·rename_i tip e' hB
     refine .need fun ⟨ht,hee⟩=>?_
     subst ht;subst hee
     obtain ⟨hb10,tip',e2,hB',hle,hk⟩:=htok b' rfl
     have hB3:=(wF hB').2
     rw [hB] at hB3;cases hB3
     have hB:=hB'
     refine .done (mt h hdst hd' hs hl he hsz hsz0 hz hzl hu hdd hb h63 ⟨⟨hb10,(wF hB').1⟩,?_⟩ hvals hnl hlen hf hrun)
     have htk:=hk rfl
     cases hγ : G.γ b' with
     | none=>exact .inl ⟨htk.1 hγ,rfl,.inr hB⟩
     | some g=>obtain ⟨q1,q2⟩:=htk.2 g hγ;exact .inr ⟨g,rfl,q1,q2,hB⟩
    ·exact .fail
   ·split
    ·refine .ex fun vx hvx=>?_
     rcases hvx with rfl | rfl
     ·show Snd E.P σ (.need (n = 0∧[] = []) (.rd (10000 + d) (lY d e m sz news))) _
      refine .need fun ⟨hn0,_⟩=>.rd ?_
      subst hn0
      unfold lY
      split
      ·rename_i hB
       refine .done fun Q=>?_
       have hcap:=hfull rfl
       subst hcap
       have h20 : 10000 + d < 20000:=Nat.add_lt_add_left hd'.2 10000
       obtain ⟨h1,hγ⟩:=h.newRow (b:=10000 + d) e sz (Nat.le_add_right ..) h20 hB
       have hmk : be (cC σ (10000 + d) (.br [] 0 e sz)) (10000 + d) = .br [] 0 e sz:=by rw [bO,if_pos rfl]
       have hg:=jl (kb:=10000 + d) (off:=0) (n:=0) (v:=0) (sz:=sz) h1 hdst hd' (Nat.le_add_right ..) ((ca (Nat.lt_trans h20 (by decide))).trans hmk) (mX (Nat.le_add_right ..) (Nat.lt_trans h20 (by decide)) hmk) hs.1 (fun _=>rfl) ⟨fun _=>rfl,fun g hg=>by rw [hγ] at hg;cases hg⟩ (by simp) (.inr ⟨rfl,by simp⟩) he hsz hsz0 hz hzl hu hdd hb h63 (.of_pure hvals) hnl hlen hf hrun Q
       refine Oper.wp_mono (fun a' w' ⟨G',hG'⟩=>⟨G',hG'.ext' fun k=>?_⟩) hg
       have e1 : dz [] 0 (0 * sz) ++ news = news:=by simp [dz]
       simp only [e1,Nat.zero_add,ck,bO]
       by_cases q1 : d = k
       ·rw [if_pos q1,if_pos q1]
       ·rw [if_neg q1,if_neg q1]
        by_cases q2 : 10000 + d = k
        ·rw [if_pos q2,if_pos q2]
        ·rw [if_neg q2,if_neg q2,if_neg q2]
      ·rename_i rows hB
       refine .done fun Q=>?_
       have hcap:=hfull rfl
       subst hcap
       have h20 : 10000 + d < 20000:=Nat.add_lt_add_left hd'.2 10000
       have hbig : 10000 + d < 1000000:=Nat.lt_trans h20 (by decide)
       obtain ⟨h1,hγ,hmk,hlk⟩:=h.newRowF (b:=10000 + d) e sz (Nat.le_add_right ..) h20 hB
       have hwr:=oi (σ:=cC σ (10000 + d) (.fo (rows ++ [.br [] 0 e sz]))) (k:=enc (10000 + d) rows.length) (e:=e) (sz:=sz) (rows:=rows ++ [.br [] 0 e sz]) (by rw [fx _ hbig];exact Nat.le_add_right ..) (gq _ _) (by rw [fx _ hbig];exact hmk) (by rw [fY _ hbig];simp)
       have hg:=jl (kb:=enc (10000 + d) rows.length) (off:=0) (n:=0) (v:=0) (sz:=sz) h1 hdst hd' (by unfold enc;exact Nat.le_trans (by decide : 10000≤1000000) (Nat.le_add_right ..)) hlk hwr hs.1 (fun _=>rfl) ⟨fun _=>rfl,fun g hg=>by rw [hγ] at hg;cases hg⟩ (by simp) (.inr ⟨rfl,by simp⟩) he hsz hsz0 hz hzl hu hdd hb h63 (.of_pure hvals) hnl hlen hf hrun Q
       refine Oper.wp_mono (fun a' w' ⟨G',hG'⟩=>⟨G',hG'.ext' fun k=>?_⟩) hg
       have e1 : dz [] 0 (0 * sz) ++ news = news:=by simp [dz]
       have e2 : (rows ++ [AV.br [] 0 e sz]).set rows.length (.br news m e sz) = rows ++ [.br news m e sz]:=by
        rw [List.set_append_right _ _ (Nat.le_refl _)];simp
       simp only [e1,Nat.zero_add,ck,bO,fx _ hbig,fY _ hbig,e2]
       by_cases q1 : d = k
       ·rw [if_pos q1,if_pos q1]
       ·rw [if_neg q1,if_neg q1]
        by_cases q2 : 10000 + d = k
        ·rw [if_pos q2,if_pos q2]
        ·rw [if_neg q2,if_neg q2,if_neg q2]
      ·exact .fail
     ·show Snd E.P σ (.rd (10000 + d) (ij d e n m [] news)) _
      refine .rd ?_
      unfold ij
      split
      ·rename_i hB
       refine .done (mt h hdst hd' hs hl he hsz hsz0 hz hzl hu hdd hb h63 ⟨⟨Nat.le_add_right ..,Nat.lt_trans (Nat.add_lt_add_left hd'.2 10000) (by decide)⟩,.inl ⟨hfull rfl,?_,.inl ((ca (Nat.lt_trans (Nat.add_lt_add_left hd'.2 10000) (by decide))).trans hB)⟩⟩ hvals hnl hlen hf hrun)
       cases hγ : G.γ (10000 + d) with
       | none=>rfl
       | some g =>
        exact ((h.st.box _ g hγ).2.2.not_u ((ca (Nat.lt_trans (Nat.add_lt_add_left hd'.2 10000) (by decide))).trans hB)).elim
      ·exact .fail
    refine .rd ?_
    unfold ij
    split
    ·rename_i hB
     refine .done (mt h hdst hd' hs hl he hsz hsz0 hz hzl hu hdd hb h63 ⟨⟨Nat.le_add_right ..,Nat.lt_trans (Nat.add_lt_add_left hd'.2 10000) (by decide)⟩,.inl ⟨hfull rfl,?_,.inl ((ca (Nat.lt_trans (Nat.add_lt_add_left hd'.2 10000) (by decide))).trans hB)⟩⟩ hvals hnl hlen hf hrun)
     cases hγ : G.γ (10000 + d) with
     | none=>rfl
     | some g =>
      exact ((h.st.box _ g hγ).2.2.not_u ((ca (Nat.lt_trans (Nat.add_lt_add_left hd'.2 10000) (by decide))).trans hB)).elim
    ·exact .fail
   ·exact .fail
  ·rename_i d e b off n ver hdst he
   split
   rotate_left
   ·exact .fail
   rename_i sz z hsz hz
   refine .need fun ⟨hd,hsz0,hzl,hnl,hb,h63⟩=>?_
   obtain ⟨⟨hvals,_⟩,hf⟩:=hv e sz he hsz hnl
   have hd' : d < E.N∧d < 10000:=by unfold c9 at hd;rw [hdst] at hd;exact hd
   obtain ⟨ad,cap,cs,v',e',sz',ev,hn,had,hkb,hB,hvv,how⟩:=gj hva
   have hrun : ∀ r : Result Value,(Builtin.append_ #[t,t'] o.type #[.slice ad n cap,a.eval x]).run E.P w = r→(execOp a.eval o).run E.P w = r.andThen fun v w'=>.ok (.value v) w':=fun r hr=>by
    simp only [execOp,ho,Sem.run_bind,resolve,invoke,builtin,Sem.run_pure,Result.andThen_ok,List.map_toArray,List.map_cons,List.map_nil,ev,hr]
   unfold pd
   refine .rdRow hkb fun cs2 v2 e2' sz2 wr hB2 hwr=>?_
   rw [hB] at hB2;cases hB2
   refine .need fun ⟨e1,e2,e3,hl,h0m⟩=>.done ?_
   subst e1;subst e2;subst e3
   exact jl h hdst hd' hkb hB hwr hn had (how rfl) hl h0m he hsz hsz0 hz hzl hu hdd hb h63 hvals hnl hlen hf hrun
  ·exact .fail
 unfold yh
 split
 ·rename_i b off m ver
  refine .need fun htt=>?_
  subst htt
  obtain ⟨ad,cap,cs,v',e',sz',ev,hn,had,hkb,hB,hvv,how⟩:=gj hvb
  unfold wt
  refine .rdRow hkb fun cs2 v2 e2' sz2 wr hB2 _=>?_
  rw [hB] at hB2;cases hB2
  refine .need fun ⟨e1,hbind,hl⟩=>?_
  obtain ⟨vals,hvals,hf,_⟩:=tN h hB hn (how e1) hl
  obtain ⟨e,he,hsz⟩:=Option.bind_eq_some_iff.1 hbind
  split
  ·split
   ·rename_i news hnews
    refine main (vals:=vals) (cp he) (fun k e=>by cases e) (fun e2 sz2 he2 hsz2 _=>?_) fun w'=>by rw [ev];simp [Builtin.lenOf]
    rw [he] at he2;cases he2
    rw [hsz] at hsz2;cases hsz2
    have hlm:=im hnews
    have hpc : PCRel G.Z vals news:=⟨hvals.1.trans hlm.symm,fun j hj=>⟨iw 4 (hvals.2 j (by omega)).1 (ig hnews j (by omega) hj),(hvals.2 j (by omega)).2⟩⟩
    exact ⟨⟨.of_pure hpc,fun _=>hpc⟩,fun w' hw'=>by rw [ev];exact hf w' hw'⟩
   ·exact .fail
  ·refine main (vals:=vals) (cp he) (fun k e=>by cases e) (fun e2 sz2 he2 hsz2 _=>?_) fun w'=>by rw [ev];simp [Builtin.lenOf]
   rw [he] at he2;cases he2
   rw [hsz] at hsz2;cases hsz2
   exact ⟨⟨hvals,fun ⟨cs,n,own,hcon⟩=>absurd hcon (by simp_all)⟩,fun w' hw'=>by rw [ev];exact hf w' hw'⟩
 ·rename_i news m own
  refine .need fun htt=>?_
  subst htt
  obtain ⟨ad,cap,b,off,f,ev,hs,_⟩:=dR hvb
  by_cases hcond : ∃ e sz,aT E.P t' = some e∧bZ E.P e = some sz∧news.length = m * sz
  ·obtain ⟨e,sz,he,hsz,hnl⟩:=hcond
   obtain ⟨vals,hvals,hf,_⟩:=m4 h hs hnl
   refine main (vals:=vals) (cp he) (fun k e=>by cases e) (fun e' sz' he' hsz' _=>?_) fun w'=>by rw [ev];simp [Builtin.lenOf]
   rw [he] at he';cases he'
   rw [hsz] at hsz';cases hsz'
   exact ⟨⟨.of_pure hvals,fun _=>hvals⟩,fun w' hw'=>by rw [ev];exact hf w' hw'⟩
  ·unfold gP
   split
   ·rename_i d e cs n own' hdst he
    split
    rotate_left
    ·exact .fail
    rename_i sz z hsz hz
    exact .need fun ⟨_,_,_,_,hnl,_⟩=>absurd ⟨e,sz,he,hsz,hnl⟩ hcond
   ·rename_i d e b' off' n ver' hdst he
    split
    rotate_left
    ·exact .fail
    rename_i sz z hsz hz
    exact .need fun ⟨_,_,_,hnl,_⟩=>absurd ⟨e,sz,he,hsz,hnl⟩ hcond
   ·exact .fail
 ·rename_i b
  refine .need fun ⟨hstr,hu8⟩=>?_
  have ev:=cI hvb
  obtain ⟨e,he,hu8⟩:=Option.bind_eq_some_iff.1 hu8
  refine main (vals:=b.data.toList.map fun c : UInt8=>Value.int .u8 (c.toNat : Int)) (dO hstr) (fun k e=>by cases e) (fun e' sz' he' hsz' hnl=>?_) fun w'=>by rw [ev];simp [Builtin.lenOf]
  have hpc : PCRel G.Z (b.data.toList.map fun c : UInt8=>Value.int .u8 (c.toNat : Int)) (b.data.toList.map go):=⟨by simp,fun j hj=>?_⟩
  refine ⟨⟨.of_pure hpc,fun _=>hpc⟩,fun w' hw'=>?_⟩
  rotate_left
  ·have hj' : j < b.data.size:=by simpa using hj
   have hq : b.data[j]? = some b.data[j]:=Array.getElem?_eq_getElem hj'
   have e2 : (b.data.toList.map fun c : UInt8=>Value.int .u8 (c.toNat : Int)).getD j undef = .int .u8 (b.data[j].toNat : Int):=by simp [List.getD_eq_getElem?_getD,hq]
   have e3 : (b.data.toList.map go)[j] = .c (.int .u8 (b.data[j].toNat : Int)):=by simp [go]
   rw [e2,e3]
   exact ⟨.c _,rfl⟩
  ·rw [ev]
   simp only [Builtin.firstCells,Sem.run_pure]
   congr 1
   apply Array.toList_inj.1
   simp
 ·exact .fail
end
end Go.Proofs.YtmpdocplcgbpkaaGreatDoor
namespace Go.Proofs.YtmpdocplcgbpkaaGreatDoor
set_option linter.unusedSimpArgs false
set_option linter.unusedVariables false
open Go.RowKit Go.MapKept
theorem mN {P : Program} {t e : TypeId} {q : IntKind} (h : ld P t = some (q,e)) : ∃ k,P.underlying t = some (.map k e)∧P.underlying k = some (.int q):=by
 unfold ld at h
 cases hu : P.underlying t with
 | none=>simp [hu] at h
 | some d =>
  cases d <;> simp [hu] at h
  rename_i k e'
  obtain ⟨q0,h1,rfl,rfl⟩:=h
  exact ⟨k,rfl,fU h1⟩
theorem pq {q : IntKind} : ∀ {l : List MapEntry},g7 q (l.flatMap fun e=>[.c e.key,.c e.val]) = true→∀ x ∈ l,∃ n,x.key = .int q n
 | [],_=>by simp
 | e :: r,h=>by
  simp only [List.flatMap_cons,List.cons_append,List.nil_append] at h
  cases hk : e.key with
  | int q' n =>
   simp only [hk,g7,Bool.and_eq_true,decide_eq_true_eq] at h
   intro x hx
   rcases List.mem_cons.1 hx with rfl | hx
   ·exact ⟨n,by rw [hk,h.1]⟩
   ·exact pq h.2 x hx
  | _=>simp [hk,g7] at h
theorem k9 {q : IntKind} {n : Int} : ∀ {l : List MapEntry},(∀ x ∈ l,∃ n,x.key = .int q n) →
  (jq n (l.flatMap fun e=>[.c e.key,.c e.val]) = none∧(∀ v,jV q n (.c v) (l.flatMap fun e=>[.c e.key,.c e.val]) = (l.flatMap fun e=>[.c e.key,.c e.val]) ++ [.c (.int q n),.c v])∧∀ x ∈ l,x.key ≠ .int q n) ∨
  ∃ j e,l[j]? = some e∧e.key = .int q n∧jq n (l.flatMap fun e=>[.c e.key,.c e.val]) = some (.c e.val) ∧
   ∀ v,jV q n (.c v) (l.flatMap fun e=>[.c e.key,.c e.val]) = (l.set j { e with key:=.int q n,val:=v }).flatMap fun e=>[.c e.key,.c e.val]
 | [],_=>.inl ⟨rfl,fun _=>rfl,by simp⟩
 | e :: r,h=>by
  obtain ⟨k,hk⟩:=h e (by simp)
  simp only [List.flatMap_cons,List.cons_append,List.nil_append,hk,jq,jV]
  by_cases hkn : k = n
  ·subst hkn
   refine .inr ⟨0,e,rfl,hk,by simp,fun v=>?_⟩
   simp
  ·rcases k9 (n:=n) (l:=r) (fun x hx=>h x (by simp [hx])) with ⟨h1,h2,h3⟩ | ⟨j,e',h1,h2,h3,h4⟩
   ·refine .inl ⟨by simp [hkn,h1],fun v=>by simp [hkn,h2],fun x hx=>?_⟩
    rcases List.mem_cons.1 hx with rfl | hx
    ·rw [hk];simp [hkn]
    ·exact h3 x hx
   ·refine .inr ⟨j + 1,e',by simpa using h1,h2,by simp [hkn,h3],fun v=>?_⟩
    simp [hkn,h4,hk]
section
variable {E : Env} {o : Oper} {σ : bv} {a : Act} {w : World} {G : Gh}
theorem oP (h : Sim E σ a w G) {b : Nat} {cs : List AV} {ty : TypeId} (hb : 10000≤b) (hB : lm σ b = .bc cs ty) {g : Nat} (hg : G.γ b = some g) (hm : isM ty = true) : MapAt G w g cs∧¬ E.Pr g:=by
 obtain ⟨_,hpr,h1⟩:=h.st.box b g hg
 rcases h1 with ⟨cs',ty',e,⟨hm',_⟩ | ⟨_,h2⟩⟩ | ⟨n,e,h2,_⟩ | ⟨_,_,_,_,h2,_⟩
 ·rw [hB] at e;cases e;rw [hm] at hm';cases hm'
 ·rw [hB] at e;cases e;exact ⟨h2,hpr⟩
 ·rw [hB] at h2;cases h2
 ·rw [hB] at h2;cases h2
theorem sf (h : Sim E σ a w G) {P : Program} {t e : TypeId} {q : IntKind} {n : Int} {cs : List AV} {g : Nat} (hP : E.P = P) (hma : MapAt G w g cs) (hk : g7 q cs = true) (ht : ld P t = some (q,e)) {z : Value} (hz : mf P e = some z) (ok : Bool) :
  ∃ v,(Instr.lookup t (.map (some g)) (.int q n) ok).run P w = .ok v w∧VRel G (lm σ) v (kZ ok z (jq n cs)):=by
 obtain ⟨k,h1,h2⟩:=mN ht
 obtain ⟨es,clock,h3,h4,rfl,h5⟩:=hma
 have hks:=pq hk
 have hck : ∀ em,(Instr.checkKey em 10000 k (.int q n)).run P w = .ok () w:=fun em=>run_checkKey h2 (by simp [IsKey]) em 9999
 have hzv : (zeroValue e).run P w = .ok z w:=by
  unfold mf at hz
  obtain ⟨i,hi,hiz⟩:=Option.bind_eq_some_iff.1 hz
  simp [zeroValue,typeInfo,hi,hiz]
 have hf:=findNow_spec (d:=.int q) (k:=.int q n) (by simp [IsKey]) es.toList 0 fun x hx=>by obtain ⟨m,hm⟩:=hks x hx;rw [hm];simp [IsKey]
 rcases k9 (n:=n) hks with ⟨l1,_,l3⟩ | ⟨j,e0,l1,l2,l3,_⟩
 ·rcases hf with ⟨f1,f2⟩ | ⟨j,e1,f1,f2,f3⟩
  ·have hr:=run_findKey (w:=w) h2 f1
   refine ⟨if ok then .tuple #[z,.bool false] else z,?_,?_⟩
   ·simp [Instr.lookup,run_underlying h1,MapKept.run_getObj_map h3,hck,hr,hzv]
   ·unfold dT;rw [l1]
    cases ok
    ·exact .p (.c _)
    ·refine .tup #[z,.bool false] _ rfl fun j hj=>?_
     match j,hj with
     | 0,_=>exact .p (.c _)
     | 1,_=>exact .p (.c _)
  ·exact absurd f3 (l3 e1 (List.mem_of_getElem? f2))
 ·rcases hf with ⟨f1,f2⟩ | ⟨j',e1,f1,f2,f3⟩
  ·exact absurd l2 (f2 e0 (List.mem_of_getElem? l1))
  ·have hr:=run_findKey (w:=w) h2 f1
   have hjj : e1 = e0:=by
    have hnd:=h5.2.2
    obtain ⟨a1,a2⟩:=List.getElem?_eq_some_iff.1 l1
    obtain ⟨b1,b2⟩:=List.getElem?_eq_some_iff.1 f2
    have hj : j' = j:=by
     have:=(List.nodup_iff_pairwise_ne.1 hnd)
     rw [List.pairwise_iff_getElem] at this
     rcases Nat.lt_trichotomy j' j with hlt | he | hlt
     ·exact (this j' j (by rw [List.length_map];exact b1) (by rw [List.length_map];exact a1) hlt (by rw [List.getElem_map,List.getElem_map,a2,b2,l2,f3])).elim
     ·exact he
     ·exact (this j j' (by rw [List.length_map];exact a1) (by rw [List.length_map];exact b1) hlt (by rw [List.getElem_map,List.getElem_map,a2,b2,l2,f3])).elim
    subst hj
    rw [a2] at b2;exact b2.symm
   subst hjj
   refine ⟨if ok then .tuple #[e1.val,.bool true] else e1.val,?_,?_⟩
   ·simp [Instr.lookup,run_underlying h1,MapKept.run_getObj_map h3,hck,hr]
   ·unfold dT;rw [l3]
    cases ok
    ·exact .p (.c _)
    ·refine .tup #[e1.val,.bool true] _ rfl fun j hj=>?_
     match j,hj with
     | 0,_=>exact .p (.c _)
     | 1,_=>exact .p (.c _)
theorem sW (h : Sim E σ a w G) {t : TypeId} {m k : Operand} {ok : Bool} (ho : o.op = .lookup t m k ok) : Snd E.P σ (rdo m fun a=>rdo k fun b=>lZ E.P E.N o t a b ok) (d6 E o σ a w) :=
 .rdo h fun vm hm=>.rdo h fun vk hk=>by
  unfold lZ
  split
  ·rename_i b q n q' e ht
   split
   ·rename_i z hz
    refine .rd ?_
    split
    ·rename_i cs ty hB
     refine .need fun ⟨hq,hko⟩=>?_
     subst hq
     obtain ⟨g,cs',ty',ev,hb,hB',hg,hmt⟩:=jm hm
     have hB3:=(fI hB').2
     rw [hB] at hB3;cases hB3
     have hB:=hB'
     have ek:=cI hk
     obtain ⟨v,hr,hv⟩:=sf (n:=n) h rfl (oP h hb hB hg hmt).1 hko ht hz ok
     exact bU h (v:=v) (by simp only [execOp,ho,ev,ek,Sem.run_bind,hr];rfl) hv
    ·exact .fail
   ·exact .fail
  ·exact .fail
theorem Sim.writeMap (h : Sim E σ a w G) {b g : Nat} {cs : List AV} {ty : TypeId} (hb : 10000≤b) (hB : lm σ b = .bc cs ty) (hg : G.γ b = some g) (hty : isM ty = true) {es : Array MapEntry} {clock : Nat} {cs' : List AV} (hcs : cs' = dT es) (hst : Stamped es clock)
  (hd : c9 E.N o) : ∃ G',Sim E (ck σ ((b,.bc cs' ty) :: dn o .u)) (a.put o.dst undef) { w with heap:=w.heap.setIfInBounds g (.map es clock) } G':=by
 obtain ⟨⟨es0,clk0,hc0,hz0,_,_⟩,hpr⟩:=oP h hb hB hg hty
 have hgl : g < w.heap.size:=(Array.getElem?_eq_some_iff.1 hc0).1
 have hsame : ({ w with heap:=w.heap.setIfInBounds g (.map es clock) } : World).heap[g]? = some (.map es clock):=by simp [Array.getElem?_setIfInBounds,hgl]
 have hoth : ∀ i,i ≠ g→({ w with heap:=w.heap.setIfInBounds g (.map es clock) } : World).heap[i]? = w.heap[i]?:=fun i hi=>by simp [Array.getElem?_setIfInBounds,Ne.symm hi]
 have hsz : ({ w with heap:=w.heap.setIfInBounds g (.map es clock) } : World).heap.size = w.heap.size:=by simp
 have hos : ({ w with heap:=w.heap.setIfInBounds g (.map es clock) } : World).os = w.os∧({ w with heap:=w.heap.setIfInBounds g (.map es clock) } : World).tape = w.tape∧({ w with heap:=w.heap.setIfInBounds g (.map es clock) } : World).output = w.output:=⟨rfl,rfl,rfl⟩
 generalize ({ w with heap:=w.heap.setIfInBounds g (.map es clock) } : World) = w' at *
 have hm : ∀ k,be (ck σ ((b,.bc cs' ty) :: dn o .u)) k = if some k = o.dst then .u else if b = k then .bc cs' ty else be σ k:=fun k=>by
  show be (ck (cC σ b _) (dn o .u)) k = _
  rw [fq,bO]
 have hbox : ∀ k,10000≤k→lm (ck σ ((b,.bc cs' ty) :: dn o .u)) k = if b = k then .bc cs' ty else lm σ k:=fA (fun k hk _=>by
  rw [hm,if_neg (fun e=>by have h2 : k < 10000:=(gi hd k e.symm).2;omega)]) (fI hB).1 (by rw [(fI hB).2];rfl) rfl
 have hs : BStep G (lm σ) G (lm (ck σ ((b,.bc cs' ty) :: dn o .u))):=⟨.refl _,fun k hk=>by
  rw [hbox k hk]
  by_cases e : b = k
  ·subst e;rw [if_pos rfl];exact .bc hB rfl rfl
  ·rw [if_neg e];exact .same rfl rfl rfl rfl⟩
 refine ⟨G,h.put (x:=.u) (gi hd) hs ⟨fun b' o' v hz=>?_,fun k g' hg'=>?_,fun k cs'' ty' hk hB'=>?_,h.st.inj,h.st.gl⟩ ⟨hos.1,hos.2.1,hos.2.2,by omega,fun b' hb' _=>hoth b' (fun e=>hpr (e ▸ hb'))⟩ (fun _ _ _=>rfl) (.p (.u _)) fun t ht=>?_⟩
 ·have:=h.st.agree b' o' v hz
  refine ⟨(World.cell?_of_block (a:=⟨b',o',none⟩) (hoth b' fun e=>?_)).trans this.1,this.2⟩
  subst e;rw [hz0] at hz;cases hz
 ·obtain ⟨h1,h2,h3⟩:=h.st.box k g' hg'
  by_cases e : b = k
  ·subst e
   rw [hg] at hg';cases hg'
   exact ⟨h1,h2,.inl ⟨cs',ty,by rw [hbox _ h1,if_pos rfl],.inr ⟨hty,es,clock,hsame,hz0,hcs,hst⟩⟩⟩
  ·exact ⟨h1,h2,h3.step hs (by rw [hbox k h1,if_neg e]) rfl rfl (hoth g' fun e'=>e (h.st.inj b k g hg (e' ▸ hg'))) fun _=>rfl⟩
 ·rw [hbox k hk] at hB'
  by_cases e : b = k
  ·subst e;exact ⟨g,hg⟩
  ·rw [if_neg e] at hB';exact h.st.real k cs'' ty' hk hB'
 ·rw [hm]
  by_cases e : some t = o.dst
  ·rw [if_pos e,if_pos e]
  ·rw [if_neg e,if_neg e,if_neg (by omega)]
theorem m3 (h : Sim E σ a w G) {t : TypeId} {m k x : Operand} (ho : o.op = .mapUpdate t m k x∨o.op = .insert t m k x) : Snd E.P σ (rdo m fun a=>rdo k fun b=>rdo x fun c=>l5 E.P E.N o t a b c) (d6 E o σ a w) :=
 .rdo h fun vm hm=>.rdo h fun vk hk=>.rdo h fun vx hx=>by
  unfold l5
  split
  ·rename_i b q n v q' e ht
   refine .rd ?_
   split
   ·rename_i cs ty hB
    refine .need fun ⟨hq,hko,hd⟩=>.done fun Q=>?_
    subst hq
    obtain ⟨g,cs',ty',ev,hb,hB',hg,hmt⟩:=jm hm
    have hB3:=(fI hB').2
    rw [hB] at hB3;cases hB3
    have hB:=hB'
    have ek:=cI hk
    have ex:=cI hx
    obtain ⟨kt,h1,h2⟩:=mN ht
    obtain ⟨⟨es,clock,h3,h4,hcs,h5⟩,hpr⟩:=oP h hb hB hg hmt
    subst hcs
    have hks:=pq hko
    have hck : ∀ em,(Instr.checkKey em 10000 kt (.int q n)).run E.P w = .ok () w:=fun em=>run_checkKey h2 (by simp [IsKey]) em 9999
    have hf:=findNow_spec (d:=.int q) (k:=.int q n) (by simp [IsKey]) es.toList 0 fun x hx=>by obtain ⟨m,hm⟩:=hks x hx;rw [hm];simp [IsKey]
    rcases k9 (n:=n) hks with ⟨l1,l2,l3⟩ | ⟨j,e0,l1,l2,l3,l4⟩
    ·rcases hf with ⟨f1,f2⟩ | ⟨j,e1,f1,f2,f3⟩
     ·have hr:=run_findKey (w:=w) h2 f1
      obtain ⟨G',hG⟩:=h.writeMap (o:=o) (es:=es.push { key:=.int q n,val:=v,born:=clock }) (clock:=clock + 1) (cs':=jV q n (.c v) (dT es)) hb hB hg hmt (by unfold dT;rw [l2];simp) (stamped_push h5 l3) hd
      unfold Oper.wp
      have : (execOp a.eval o).run E.P w = .ok .skip { w with heap:=w.heap.setIfInBounds g (.map (es.push { key:=.int q n,val:=v,born:=clock }) (clock + 1)) }:=by
       rcases ho with ho | ho <;> simp [execOp,ho,ev,ek,ex,Instr.mapUpdate,run_underlying h1,MapKept.run_getObj_map h3,hck,hr,MapKept.run_setObj_map _ h3]
      rw [this]
      exact ⟨G',hG⟩
     ·exact absurd f3 (l3 e1 (List.mem_of_getElem? f2))
    ·rcases hf with ⟨f1,f2⟩ | ⟨j',e1,f1,f2,f3⟩
     ·exact absurd l2 (f2 e0 (List.mem_of_getElem? l1))
     ·have hr:=run_findKey (w:=w) h2 f1
      obtain ⟨a1,a2⟩:=List.getElem?_eq_some_iff.1 l1
      obtain ⟨b1,b2⟩:=List.getElem?_eq_some_iff.1 f2
      have hj : j' = j:=by
       have:=(List.nodup_iff_pairwise_ne.1 h5.2.2)
       rw [List.pairwise_iff_getElem] at this
       rcases Nat.lt_trichotomy j' j with hlt | he | hlt
       ·exact (this j' j (by rw [List.length_map];exact b1) (by rw [List.length_map];exact a1) hlt (by rw [List.getElem_map,List.getElem_map,a2,b2,l2,f3])).elim
       ·exact he
       ·exact (this j j' (by rw [List.length_map];exact a1) (by rw [List.length_map];exact b1) hlt (by rw [List.getElem_map,List.getElem_map,a2,b2,l2,f3])).elim
      subst hj
      have hjj : e1 = e0:=by rw [a2] at b2;exact b2.symm
      subst hjj
      have hje : es[j']? = some e1:=by simpa using f2
      have hsk:=run_keyThatStays (P:=E.P) (w:=w) (d:=.int q) (k:=.int q n) (by simp [IsKey])
      have hlist : (es.modify j' (fun e'=>{ e' with key:=.int q n,val:=v })).toList = es.toList.set j' { e1 with key:=.int q n,val:=v }:=by
       rw [Array.toList_modify]
       apply List.ext_getElem?
       intro i
       rw [List.getElem?_modify,List.getElem?_set]
       by_cases hi : j' = i
       ·subst hi;rw [f2,if_pos rfl,if_pos b1];simp
       ·rw [if_neg hi];simp [hi]
      obtain ⟨G',hG⟩:=h.writeMap (o:=o) (es:=es.modify j' fun e'=>{ e' with key:=.int q n,val:=v }) (clock:=clock) (cs':=jV q n (.c v) (dT es)) hb hB hg hmt (by unfold dT;rw [l4,hlist]) (stamped_modify h5 _ _ (fun _ _=>rfl) (fun e' _ he'=>by rw [hje] at he';cases he';exact f3.symm)) hd
      unfold Oper.wp
      have : (execOp a.eval o).run E.P w = .ok .skip { w with heap:=w.heap.setIfInBounds g (.map (es.modify j' fun e'=>{ e' with key:=.int q n,val:=v }) clock) }:=by
       rcases ho with ho | ho <;> simp [execOp,ho,ev,ek,ex,Instr.mapUpdate,run_underlying h1,MapKept.run_getObj_map h3,hck,hr,MapKept.run_setObj_map _ h3,hje,f3,hsk]
      rw [this]
      exact ⟨G',hG⟩
   ·exact .fail
  ·exact .fail
theorem Sim.newMap (h : Sim E σ a w G) {d t : Nat} (hdd' : d < E.N∧d < 10000) (hk : be σ (10000 + d) = .u) :
  ∃ G',Sim E (ck σ [(10000 + d,.bc [] (1000000000 + t)),(d,.mp (10000 + d))]) (a.put (some d) (.map (some w.heap.size))) (w.alloc (.map #[] 0)) G':=by
 have hx : isM (1000000000 + t) = true:=by simp [isM]
 let G' : Gh:={ Z:=G.Z,γ:=fun k=>if k = 10000 + d then some w.heap.size else G.γ k,κ:=G.κ,β:=G.β }
 have hm : ∀ k,be (ck σ [(10000 + d,.bc [] (1000000000 + t)),(d,.mp (10000 + d))]) k = if d = k then .mp (10000 + d) else if 10000 + d = k then .bc [] (1000000000 + t) else be σ k:=fun k=>by
  simp only [ck,bO]
 have hbox : ∀ k,10000≤k→lm (ck σ [(10000 + d,.bc [] (1000000000 + t)),(d,.mp (10000 + d))]) k = if 10000 + d = k then .bc [] (1000000000 + t) else lm σ k:=fA (fun k hk _=>by
  have hd2:=hdd'.2
  rw [hm,if_neg (by omega)]) (by have hd2:=hdd'.2;omega) (by rw [hk];rfl) rfl
 have hk : lm σ (10000 + d) = .u:=(ca (by have hd2:=hdd'.2;omega)).trans hk
 have hs : BStep G (lm σ) G' (lm (ck σ [(10000 + d,.bc [] (1000000000 + t)),(d,.mp (10000 + d))])):=⟨.refl _,fun k hk'=>by
  by_cases e : k = 10000 + d
  ·subst e;exact .u hk
  ·have e1 : G'.γ k = G.γ k:=if_neg e
   exact .same (by rw [hbox k hk',if_neg (fun h=>e h.symm)]) e1 rfl rfl⟩
 refine ⟨G',h.put (dst:=some d) (x:=.mp (10000 + d)) (fun _ e=>by cases e;exact hdd') hs ⟨fun b o v' hz=>?_,fun k g hg=>?_,fun k cs' ty' hk' hB=>?_,fun k k' g h1 h2=>?_,h.st.gl⟩ (jy _ _ _) (fun _ _ _=>rfl) ?_ fun t ht=>?_⟩
 ·have:=h.st.agree b o v' hz
  exact ⟨(World.cell?_alloc_lt w _ ⟨b,o,none⟩ (iX h hz)).trans this.1,this.2⟩
 ·by_cases e : k = 10000 + d
  ·subst e
   have e2 : some w.heap.size = some g:=(if_pos rfl).symm.trans hg
   cases e2
   exact ⟨by omega,kd h (Nat.le_refl _),.inl ⟨[],1000000000 + t,by rw [hbox _ (by omega),if_pos rfl],.inr ⟨hx,#[],0,heap_alloc_new w _,fun o=>gg h o,rfl,stamped_empty 0⟩⟩⟩
  ·have hg' : G.γ k = some g:=(if_neg e).symm.trans hg
   obtain ⟨h1,h2,h3⟩:=h.st.box k g hg'
   exact ⟨h1,h2,h3.step hs (by rw [hbox k h1,if_neg (fun h=>e h.symm)]) rfl rfl (heap_alloc_old w _ (ew h hg')) fun _=>rfl⟩
 ·by_cases e : k = 10000 + d
  ·exact ⟨w.heap.size,if_pos e⟩
  ·rw [hbox k hk',if_neg (fun h=>e h.symm)] at hB
   obtain ⟨g,hg⟩:=h.st.real k cs' ty' hk' hB
   exact ⟨g,(if_neg e).trans hg⟩
 ·by_cases e : k = 10000 + d <;> by_cases e' : k' = 10000 + d
  ·omega
  ·have e1 : some w.heap.size = some g:=(if_pos e).symm.trans h1
   have e2 : G.γ k' = some g:=(if_neg e').symm.trans h2
   cases e1;exact absurd (ew h e2) (Nat.lt_irrefl _)
  ·have e1 : some w.heap.size = some g:=(if_pos e').symm.trans h2
   have e2 : G.γ k = some g:=(if_neg e).symm.trans h1
   cases e1;exact absurd (ew h e2) (Nat.lt_irrefl _)
  ·exact h.st.inj k k' g ((if_neg e).symm.trans h1) ((if_neg e').symm.trans h2)
 ·exact .mp (10000 + d) w.heap.size [] (1000000000 + t) (by omega) (by rw [hbox _ (by omega),if_pos rfl]) (if_pos rfl) hx
 ·rw [hm]
  by_cases e : d = t
  ·subst e;simp
  ·have hd2:=hdd'.2
   rw [if_neg e,if_neg (by omega),if_neg (by simpa using fun e'=>e e'.symm)]
theorem qW (h : Sim E σ a w G) {t : TypeId} (ho : o.op = .makeMap t none) : Snd E.P σ (kD E.P E.N o t) (d6 E o σ a w):=by
 unfold kD
 split
 ·rename_i d hd
  refine .need fun hdd=>.rd ?_
  split
  ·rename_i hk
   refine .done fun Q=>?_
   have hdd' : d < E.N∧d < 10000:=by unfold c9 at hdd;rw [hd] at hdd;exact hdd
   unfold Oper.wp
   have : (execOp a.eval o).run E.P w = .ok (.value (.map (some w.heap.size))) (w.alloc (.map #[] 0)):=by
    simp [execOp,ho,Instr.makeMap]
   rw [this,Oper.upon,hd]
   exact h.newMap hdd' hk
  ·exact .fail
 ·exact .fail
end
end Go.Proofs.YtmpdocplcgbpkaaGreatDoor

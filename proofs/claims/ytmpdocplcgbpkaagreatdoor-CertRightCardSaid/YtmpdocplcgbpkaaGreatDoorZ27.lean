/- A formula by values; what is normalized has the same value: plain. Clauses of a formula that is true by some values are all true by some assignment: plain. -/
import Derived.Test.YtmpdocplcgbpkaaGreatDoorZ25
import Derived.Test.YtmpdocplcgbpkaaGreatDoorZ15
import Derived.Test.YtmpdocplcgbpkaaGreatDoorZ26
namespace Go.Proofs.YtmpdocplcgbpkaaGreatDoor
set_option linter.unusedSimpArgs false
set_option linter.unusedVariables false
mutual
def tru (u : Int→Int) : Fo→Bool
 | .mk k l ks=>if k = 0 then true else if k = 2 then decide (dK u l≤0) else if k = 3 then decide (dK u l = 0) else if k = 4 then !xn u ks else if k = 5 then fG u ks else if k = 6 then fH u ks else false
def xn (u : Int→Int) : List Fo→Bool
 | []=>false
 | f :: _=>tru u f
def fG (u : Int→Int) : List Fo→Bool
 | []=>true
 | f :: r=>tru u f && fG u r
def fH (u : Int→Int) : List Fo→Bool
 | []=>false
 | f :: r=>tru u f || fH u r
end
theorem Aa (u : Int→Int) : tru u fT = true:=by unfold fT;rw [tru];rfl
theorem z8 (u : Int→Int) : tru u fF = false:=by unfold fF;rw [tru];rfl
theorem tT (u : Int→Int) (l : Ln) (ks : List Fo) : tru u (.mk 2 l ks) = decide (dK u l≤0):=by rw [tru];simp
theorem rx (u : Int→Int) (l : Ln) (f : Fo) (ks : List Fo) : tru u (.mk 4 l (f :: ks)) = !tru u f:=by rw [tru,xn];simp
theorem ou (u : Int→Int) (l : Ln) (ks : List Fo) : tru u (.mk 5 l ks) = fG u ks:=by rw [tru];simp
theorem ov (u : Int→Int) (l : Ln) (ks : List Fo) : tru u (.mk 6 l ks) = fH u ks:=by rw [tru];simp
theorem rr (u : Int→Int) : ∀ a b : List Fo,fG u (a ++ b) = (fG u a && fG u b)
 | [],b=>by rw [fG];rfl
 | f :: r,b=>by rw [List.cons_append,fG,fG,rr u r b,Bool.and_assoc]
theorem rv (u : Int→Int) : ∀ a b : List Fo,fH u (a ++ b) = (fH u a || fH u b)
 | [],b=>by rw [fH];rfl
 | f :: r,b=>by rw [List.cons_append,fH,fH,rv u r b,Bool.or_assoc]
theorem rz (u : Int→Int) {g : Nat} : ∀ t : List Tm,(∀ m ∈ t,g ∣ m.2.natAbs)→(g : Int) * dI u (jd (g : Int) t) = dI u t
 | [],_=>by simp [jd,dI]
 | m :: r,h=>by
  have ih:=rz u r fun x hx=>h x (by simp [hx])
  have e : jd (g : Int) (m :: r) = (m.1,m.2.tdiv (g : Int)) :: jd (g : Int) r:=rfl
  have hd : (g : Int) ∣ m.2:=Int.ofNat_dvd_left.2 (h m (by simp))
  have h2 : (g : Int) * m.2.tdiv (g : Int) = m.2:=Int.mul_tdiv_cancel' hd
  rw [e,dI,dI,Int.mul_add,ih,← Int.mul_assoc,h2]
theorem xo {a g : Int} (hg : 0 < g) : a≤g * upZ a g:=by
 have h1:=Int.mul_tdiv_add_tmod a g
 have h2:=Int.tmod_lt_of_pos a hg
 unfold upZ
 split
 ·rw [Int.mul_add];omega
 ·rw [Int.mul_add];omega
theorem xO {a g S : Int} (hg : 0 < g) : a + g * S≤0 ↔ upZ a g + S≤0:=by
 have h1:=xp (a:=a) hg
 have h2:=xo (a:=a) hg
 constructor
 ·intro h
  rcases Int.lt_or_le 0 (upZ a g + S) with h3 | h3
  ·have h4 : g * 1≤g * (upZ a g + S):=Int.mul_le_mul_of_nonneg_left (by omega) (by omega)
   rw [Int.mul_add,Int.mul_one] at h4
   omega
  ·exact h3
 ·intro h
  have h4 : g * (upZ a g + S)≤g * 0:=Int.mul_le_mul_of_nonneg_left h (by omega)
  rw [Int.mul_add,Int.mul_zero] at h4
  omega
theorem w3 (u : Int→Int) {l : Ln} (hl : cY l = true) (hne : l.t.length ≠ 0) : (dK u (gK l)≤0) = (dK u l≤0):=by
 have hts : cU (-1) l.t = true:=by unfold cY at hl;simp only [Bool.and_eq_true] at hl;exact hl.2.2
 have hok:=fv _ _ hts
 obtain ⟨m,r,e⟩:=List.exists_cons_of_ne_nil (l:=l.t) (fun h=>hne (by rw [h];rfl))
 have hg : 0 < eB 0 l.t:=mr (m:=m) (by rw [e];simp) (hok m (by rw [e];simp)).2.1
 have hv:=rz u l.t (ji l.t 0).2
 have hc:=xO (a:=l.c) (g:=(eB 0 l.t : Int)) (S:=dI u (jd (eB 0 l.t : Int) l.t)) (by omega)
 rw [hv] at hc
 exact propext hc.symm
theorem ry (u : Int→Int) (c : Int) (t : List Tm) : dK u ⟨1 - c,cz (-1) t⟩ = 1 - dK u ⟨c,t⟩:=by
 unfold dK
 simp only
 rw [iZ];omega
theorem vq (u : Int→Int) (l : Ln) : dK u (jT l) = -dK u l:=by
 unfold jT dK
 simp only
 rw [iZ];omega
theorem qx (u : Int→Int) {l : Ln} (h : (fh l).1 = 0) : tru u (fh l).2 = decide (dK u l≤0):=by
 unfold fh at h ⊢
 split at h
 ·cases h
 rename_i hl
 have hl : cY l = true:=by simpa using hl
 rw [if_neg (by rw [hl];decide)]
 split at h
 ·rename_i h0
  rw [if_pos h0]
  have ht : l.t = []:=List.eq_nil_of_length_eq_zero h0
  have hv : dK u l = l.c:=by unfold dK;rw [ht];simp [dI]
  rw [hv]
  simp only
  split
  ·rename_i hc;rw [Aa,decide_eq_true hc]
  ·rename_i hc;rw [z8,decide_eq_false hc]
 rename_i h0
 rw [if_neg h0]
 have hr:=w3 u hl h0
 split at h
 ·rename_i hk
  rw [if_pos hk,tT]
  simp only [hr]
 rename_i hk
 rw [if_neg hk]
 split at h
 ·rename_i hc
  rw [if_pos hc,rx,tT,ry]
  show (!decide (1 - dK u (gK l)≤0)) = _
  by_cases hx : dK u l≤0
  ·have : dK u (gK l)≤0:=by rw [hr];exact hx
   rw [decide_eq_false (by omega),decide_eq_true hx];rfl
  ·have : ¬ dK u (gK l)≤0:=by rw [hr];exact hx
   rw [decide_eq_true (by omega),decide_eq_false hx];rfl
 ·cases h
def k4 : Fo→Prop
 | .mk k _ ks=>(k = 0∨k = 1∨k = 2∨k = 4∨k = 5∨k = 6)∧(k = 4→ks ≠ [])
theorem tA (l : Ln) : k4 (fh l).2:=by
 unfold fh
 repeat' split
 all_goals simp [k4,fT,fF]
theorem mQ (u : Int→Int) : ∀ {f : Fo},k4 f→tru u (lh f) = !tru u f
 | .mk k l ks,⟨h1,h2⟩=>by
  have e : lh (.mk k l ks) = if k = 0 then fF else if k = 1 then fT else if k = 4 then ks.headD fT else .mk 4 ⟨0,[]⟩ [.mk k l ks]:=rfl
  rw [e]
  by_cases k0 : k = 0
  ·subst k0;rw [if_pos rfl,z8,tru];simp
  rw [if_neg k0]
  by_cases k1 : k = 1
  ·subst k1;rw [if_pos rfl,Aa,tru];simp
  rw [if_neg k1]
  by_cases k4 : k = 4
  ·subst k4
   rw [if_pos rfl]
   obtain ⟨f,r,rfl⟩:=List.exists_cons_of_ne_nil (h2 rfl)
   rw [rx,Bool.not_not];rfl
  ·rw [if_neg k4,rx]
theorem Bp (a : Int) : (decide (a≤0) && decide (-a≤0)) = decide (a = 0):=by
 by_cases h : a = 0
 ·subst h;decide
 ·rw [decide_eq_false h]
  by_cases h1 : a≤0
  ·rw [decide_eq_true h1,decide_eq_false (by omega)];rfl
  ·rw [decide_eq_false h1];rfl
theorem uE (u : Int→Int) {k : Int} {l : Ln} {no : Bool} (hk : k = 2∨k = 3) (h : (gR k l no).1 = 0) (ks : List Fo) : tru u (gR k l no).2 = (no != tru u (.mk k l ks)):=by
 unfold gR at h ⊢
 split at h
 ·rename_i h1;exact absurd h h1
 rename_i h1
 rw [Decidable.not_not] at h1
 rw [if_neg (by rw [h1];decide)]
 have e1:=qx u h1
 have o1:=mQ u (tA l)
 split at h
 ·rename_i h2
  subst h2
  rw [if_pos rfl,tT]
  cases no
  ·simpa using e1
  ·simp [o1,e1]
 rename_i h2
 rw [if_neg h2]
 have h3 : k = 3:=hk.resolve_left h2
 split at h
 ·rename_i h4;exact absurd h h4
 rename_i h4
 rw [Decidable.not_not] at h4
 rw [if_neg (by rw [h4];decide)]
 have e2:=qx u h4
 have o2:=mQ u (tA (jT l))
 rw [vq] at e2
 have hv : tru u (.mk k l ks) = decide (dK u l = 0):=by subst h3;rw [tru];simp
 rw [hv,← Bp]
 cases no
 ·simp [ou,fG,e1,e2]
 ·simp [ov,fH,o1,o2,e1,e2]
mutual
theorem lg (u : Int→Int) : ∀ (f : Fo) (no : Bool),dQ f = true→(dG f no).1 = 0→tru u (dG f no).2 = (no != tru u f)
 | .mk k l ks,no,hf,h=>by
  rw [dQ,Bool.and_eq_true] at hf
  obtain ⟨ho,hfs⟩:=hf
  rw [dG] at h ⊢
  split at h
  ·rename_i hk
   rw [if_pos hk]
   exact uE u hk h ks
  rename_i hk
  rw [if_neg hk]
  split at h
  ·rename_i h4
   subst h4
   rw [if_pos rfl]
   unfold okH at ho
   simp at ho
   obtain ⟨f,rfl⟩ : ∃ f,ks = [f]:=by
    match ks,ho.2 with
    | [f],_=>exact ⟨f,rfl⟩
   rw [fg,Bool.and_eq_true] at hfs
   rw [i5] at h ⊢
   rw [lg u f (!no) hfs.1 h,rx]
   cases no <;> simp
  rename_i h4
  rw [if_neg h4]
  split at h
  ·rename_i h56
   rw [if_pos h56]
   split at h
   ·rename_i hs
    rw [if_pos hs]
    have hS:=n7 u ks no [] hfs hs
    simp only
    rcases h56 with rfl | rfl
    ·cases no
     ·rw [if_neg (by decide),ou,ou,hS.1,fG];simp
     ·rw [if_pos rfl,show (11 : Int) - 5 = 6 by decide,ov,ou,hS.2,fH];simp
    ·cases no
     ·rw [if_neg (by decide),ov,ov,hS.2,fH];simp
     ·rw [if_pos rfl,show (11 : Int) - 6 = 5 by decide,ou,ov,hS.1,fG];simp
   ·rename_i hs
    exact absurd h hs
  rename_i h56
  rw [if_neg h56]
  have hk01 : k = 0∨k = 1:=by
   by_cases h01 : k = 0∨k = 1
   ·exact h01
   ·unfold okH at ho
    rw [if_neg h01,if_neg hk,if_neg h4,if_neg h56] at ho
    cases ho
  cases no
  ·simp
  ·simp only [if_true]
   rw [mQ u (show k4 (.mk k l ks) from ⟨by omega,fun e=>absurd e h4⟩)];simp
theorem n7 (u : Int→Int) : ∀ (ks : List Fo) (no : Bool) (out : List Fo),fg ks = true→(dx ks no out).1 = 0 →
  fG u (dx ks no out).2 = (fG u out && (if no then !fH u ks else fG u ks))∧fH u (dx ks no out).2 = (fH u out || (if no then !fG u ks else fH u ks))
 | [],no,out,_,_=>by
  rw [dx,fG,fH]
  cases no <;> simp
 | f :: r,no,out,hf,h=>by
  rw [fg,Bool.and_eq_true] at hf
  rw [dx] at h ⊢
  split at h
  ·rename_i h0
   rw [if_pos h0]
   have e1:=lg u f no hf.1 h0
   obtain ⟨a1,a2⟩:=n7 u r no (out ++ [(dG f no).2]) hf.2 h
   rw [a1,a2,rr,rv,fG,fH,fG,fH,e1,fG,fH]
   cases no <;> cases tru u f <;> cases fG u out <;> cases fH u out <;> cases fG u r <;> cases fH u r <;> simp
  ·rename_i h0
   exact absurd h h0
end
mutual
theorem ng (vs : List Int) : ∀ f : Fo,dQ f = true→(∀ v ∈ dY f,jS vs v = false)→dl vs f = tru (ofN vs) f
 | .mk k l ks,hf,hv=>by
  rw [dQ,Bool.and_eq_true] at hf
  obtain ⟨ho,hfs⟩:=hf
  have hvl : ∀ m ∈ l.t,jS vs m.1 = false:=fun m hm=>hv m.1 (by rw [dY];exact List.mem_append.2 (.inl (List.mem_map.2 ⟨m,hm,rfl⟩)))
  have hvs : ∀ v ∈ cO ks,jS vs v = false:=fun v h=>hv v (by rw [dY];exact List.mem_append.2 (.inr h))
  obtain ⟨b1,b2,b3⟩:=nh vs ks hfs hvs
  rw [dl,tru,b1,b2,b3]
  by_cases k23 : k = 2∨k = 3
  ·have hl : cY l = true:=by
    unfold okH at ho
    rw [if_neg (by omega),if_pos k23,Bool.and_eq_true] at ho
    exact ho.1
   have hfar : sa (ofN vs) l.t = false:=by
    unfold sa
    rw [List.any_eq_false]
    intro m hm
    have:=hvl m hm
    unfold jS at this
    rw [this];decide
   have hval : eW l vs = (dK (ofN vs) l,0):=by unfold eW;rw [hl,hfar];rfl
   rw [hval]
   rcases k23 with rfl | rfl
   ·simp
    by_cases h1 : dK (ofN vs) l = 0
    ·simp [h1]
    ·by_cases h2 : dK (ofN vs) l < 0
     ·simp [h1,h2];omega
     ·simp [h1,h2];omega
   ·simp
  ·by_cases k0 : k = 0
   ·simp [k0]
   by_cases k4 : k = 4
   ·simp [k4]
   by_cases k5 : k = 5
   ·simp [k5]
   by_cases k6 : k = 6
   ·simp [k6]
   ·have k2 : k ≠ 2:=fun e=>k23 (.inl e)
    have k3 : k ≠ 3:=fun e=>k23 (.inr e)
    simp [k0,k2,k3,k4,k5,k6]
theorem nh (vs : List Int) : ∀ ks : List Fo,fg ks = true→(∀ v ∈ cO ks,jS vs v = false)→kS vs ks = xn (ofN vs) ks∧gH vs ks = fG (ofN vs) ks∧gI vs ks = fH (ofN vs) ks
 | [],_,_=>by rw [kS,xn,gH,fG,gI,fH];exact ⟨rfl,rfl,rfl⟩
 | f :: r,hf,hv=>by
  rw [fg,Bool.and_eq_true] at hf
  have h1:=ng vs f hf.1 fun v h=>hv v (by rw [cO];exact List.mem_append.2 (.inl h))
  obtain ⟨_,h2,h3⟩:=nh vs r hf.2 fun v h=>hv v (by rw [cO];exact List.mem_append.2 (.inr h))
  rw [kS,xn,gH,fG,gI,fH,h1,h2,h3];exact ⟨rfl,rfl,rfl⟩
end
end Go.Proofs.YtmpdocplcgbpkaaGreatDoor
namespace Go.Proofs.YtmpdocplcgbpkaaGreatDoor
set_option linter.unusedSimpArgs false
set_option linter.unusedVariables false
def sat (τ : Nat→Bool) (l : Int) : Bool:=if 0 < l then τ l.toNat else !τ (-l).toNat
def gu (τ : Nat→Bool) (c : List Int) : Bool:=c.any (sat τ)
def VarB (M l : Int) : Prop:=l ≠ 0∧-M≤l∧l≤M
theorem VarB.le {M M' l : Int} (h : VarB M l) (hm : M≤M') : VarB M' l:=⟨h.1,by have:=h.2.1;omega,by have:=h.2.2;omega⟩
theorem VarB.neg {M l : Int} (h : VarB M l) : VarB M (-l):=⟨by have:=h.1;omega,by have:=h.2.2;omega,by have:=h.2.1;omega⟩
theorem jN (τ : Nat→Bool) {l : Int} (h : l ≠ 0) : sat τ (-l) = !sat τ l:=by
 unfold sat
 by_cases h1 : 0 < l
 ·rw [if_neg (by omega),if_pos h1,Int.neg_neg]
 ·rw [if_pos (by omega),if_neg h1,Bool.not_not]
def Agree (M : Int) (τ τ' : Nat→Bool) : Prop:=∀ v : Nat,(v : Int)≤M→τ' v = τ v
theorem Agree.refl (M : Int) (τ : Nat→Bool) : Agree M τ τ:=fun _ _=>rfl
theorem Agree.trans {M M' : Int} {a b c : Nat→Bool} (h : Agree M a b) (h' : Agree M' b c) (hm : M≤M') : Agree M a c:=fun v hv=>(h' v (by omega)).trans (h v hv)
theorem ln {M : Int} {τ τ' : Nat→Bool} (h : Agree M τ τ') {l : Int} (hl : VarB M l) : sat τ' l = sat τ l:=by
 obtain ⟨h0,h1,h2⟩:=hl
 unfold sat
 split
 ·exact h _ (by omega)
 ·rw [h _ (by omega)]
theorem sP {M : Int} {τ τ' : Nat→Bool} (h : Agree M τ τ') {c : List Int} (hc : ∀ l ∈ c,VarB M l) (hs : gu τ c = true) : gu τ' c = true:=by
 obtain ⟨l,hl,h1⟩:=List.any_eq_true.1 hs
 exact List.any_eq_true.2 ⟨l,hl,by rw [ln h (hc l hl)];exact h1⟩
def ClsOk (M : Int) (τ : Nat→Bool) (cs : Cls) : Prop:=∀ c ∈ cs,(∀ l ∈ c.1,VarB M l)∧gu τ c.1 = true
theorem ClsOk.up {M M' : Int} {τ τ' : Nat→Bool} {cs : Cls} (h : ClsOk M τ cs) (ha : Agree M τ τ') (hm : M≤M') : ClsOk M' τ' cs:=fun c hc=>⟨fun l hl=>((h c hc).1 l hl).le hm,sP ha (h c hc).1 (h c hc).2⟩
mutual
def nV : Fo→List Ln
 | .mk k l ks=>(if k = 2 then [l] else []) ++ g8 ks
def g8 : List Fo→List Ln
 | []=>[]
 | f :: r=>nV f ++ g8 r
end
theorem w7 {a b : Ln} (h : fu a b = true) : b = a:=by
 unfold fu eqT at h
 simp only [Bool.and_eq_true,decide_eq_true_eq] at h
 obtain ⟨c,t⟩:=a
 obtain ⟨c',t'⟩:=b
 simp only at h
 rw [h.1,h.2]
theorem sO (a : Ln) : fu a a = true:=by unfold fu eqT;simp
theorem vI {ls : List Ln} {l : Ln} (h : atN ls l ≠ 0) : ∃ i,∃ hi : i < ls.length,atN ls l = (i : Int) + 1∧ls[i] = l:=by
 unfold atN fiP at h ⊢
 split at h
 ·rename_i ha
  rw [if_pos ha]
  obtain ⟨x,hx,hp⟩:=List.any_eq_true.1 ha
  have hlt:=List.findIdx_lt_length_of_exists (p:=fu l) (xs:=ls) ⟨x,hx,hp⟩
  exact ⟨ls.findIdx (fu l),hlt,by omega,w7 (List.findIdx_getElem (w:=hlt))⟩
 ·exact absurd rfl h
theorem xJ {ls : List Ln} {l : Ln} (h : l ∈ ls) : atN ls l ≠ 0:=by
 unfold atN fiP
 rw [if_pos (List.any_eq_true.2 ⟨l,h,sO l⟩)]
 omega
theorem wh {k : Int} {l : Ln} {ls : List Ln} {o : Ln} (h : o ∈ ls) : o ∈ j5 k l ls:=by
 unfold j5
 split
 ·exact List.mem_append.2 (.inl h)
 ·exact h
theorem wg {l : Ln} {ls : List Ln} : l ∈ j5 2 l ls:=by
 unfold j5
 split
 ·exact List.mem_append.2 (.inr (by simp))
 ·rename_i h
  obtain ⟨i,hi,_,e⟩:=vI (ls:=ls) (l:=l) fun e=>h ⟨rfl,e⟩
  rw [← e];exact List.getElem_mem hi
mutual
theorem qi : ∀ (f : Fo) (ls : List Ln),(∀ o ∈ ls,o ∈ c8 f ls)∧∀ l ∈ nV f,l ∈ c8 f ls
 | .mk k l ks,ls=>by
  obtain ⟨h1,h2⟩:=ql ks (j5 k l ls)
  rw [c8,nV]
  refine ⟨fun o ho=>h1 o (wh ho),fun x hx=>?_⟩
  rcases List.mem_append.1 hx with hx | hx
  ·split at hx
   ·rename_i hk
    have hx : x = l:=by simpa [hk] using ‹x ∈ [l]›
    subst hx hk
    exact h1 _ wg
   ·exact absurd hx List.not_mem_nil
  ·exact h2 x hx
theorem ql : ∀ (ks : List Fo) (ls : List Ln),(∀ o ∈ ls,o ∈ g5 ks ls)∧∀ l ∈ g8 ks,l ∈ g5 ks ls
 | [],ls=>by rw [g5,g8];exact ⟨fun o h=>h,fun l h=>absurd h List.not_mem_nil⟩
 | f :: r,ls=>by
  obtain ⟨h1,h2⟩:=qi f ls
  obtain ⟨h3,h4⟩:=ql r (c8 f ls)
  rw [g5,g8]
  refine ⟨fun o ho=>h3 o (h1 o ho),fun x hx=>?_⟩
  rcases List.mem_append.1 hx with hx | hx
  ·exact h3 x (h2 x hx)
  ·exact h4 x hx
end
def AtR (u : Int→Int) (ls : List Ln) (τ : Nat→Bool) : Prop:=∀ i (h : i < ls.length),τ (i + 1) = decide (dK u ls[i]≤0)
theorem AtR.agree {u : Int→Int} {ls : List Ln} {τ τ' : Nat→Bool} (h : AtR u ls τ) {N : Int} (ha : Agree N τ τ') (hn : (ls.length : Int)≤N) : AtR u ls τ':=fun i hi=>(ha (i + 1) (by omega)).trans (h i hi)
mutual
def okk : Fo→Prop
 | .mk k l ks=>okW k l ks = true∧yW ks
def yW : List Fo→Prop
 | []=>True
 | f :: r=>okk f∧yW r
end
mutual
theorem oB : ∀ (f : Fo) (d z : Int),0≤eI f d z→okk f
 | .mk k l ks,d,z,h=>by
  rw [eI] at h
  split at h
  ·rename_i hc
   exact ⟨hc.1,oD ks (d - 1) (z - 1) h⟩
  ·omega
theorem oD : ∀ (ks : List Fo) (d z : Int),0≤eJ ks d z→yW ks
 | [],_,_,_=>trivial
 | f :: r,d,z,h=>by
  rw [eJ] at h
  split at h
  ·have h1:=jP r d (eI f d z) h
   exact ⟨oB f d z (by omega),oD r d _ h⟩
  ·omega
end
theorem lw (τ : Nat→Bool) : ∀ vals : List Int,(∀ x ∈ vals,x ≠ 0)→((vals.map fun k=>-k).any (sat τ)) = !(vals.map (sat τ)).all id
 | [],_=>rfl
 | x :: r,h=>by
  rw [List.map_cons,List.any_cons,lw τ r fun y hy=>h y (by simp [hy]),jN τ (h x (by simp)),List.map_cons,List.all_cons]
  cases sat τ x <;> simp
theorem rq (u : Int→Int) : ∀ ks : List Fo,fG u ks = (ks.map (tru u)).all id
 | []=>by rw [fG];rfl
 | f :: r=>by rw [fG,rq u r,List.map_cons,List.all_cons];rfl
theorem ru (u : Int→Int) : ∀ ks : List Fo,fH u ks = (ks.map (tru u)).any id
 | []=>by rw [fH];rfl
 | f :: r=>by rw [fH,ru u r,List.map_cons,List.any_cons];rfl
theorem xD {M : Int} (hM : 0≤M) {τ : Nat→Bool} {vals : List Int} {cs : Cls} (hc : ClsOk (M + 1) τ cs) (hv : ∀ x ∈ vals,VarB M x) (b : Bool)
  (ht : τ (M + 1).toNat = if b then (vals.map (sat τ)).any id else (vals.map (sat τ)).all id) : ClsOk (M + 1) τ (oK (if b then -(M + 1) else M + 1) vals cs):=fun c hcm=>by
 unfold oK at hcm
 have hs1 : sat τ (M + 1) = τ (M + 1).toNat:=by unfold sat;rw [if_pos (by omega)]
 have hs2 : sat τ (-(M + 1)) = !τ (M + 1).toNat:=by rw [jN τ (by omega),hs1]
 have hV : VarB (M + 1) (M + 1):=⟨by omega,by omega,by omega⟩
 rcases List.mem_append.1 hcm with hcm | hcm
 ·rcases List.mem_append.1 hcm with hcm | hcm
  ·exact hc c hcm
  ·obtain ⟨k,hk,rfl⟩:=List.mem_map.1 hcm
   have hkv:=(hv k hk).le (show M≤M + 1 by omega)
   cases b with
   | true =>
    simp only [if_true] at ht ⊢
    have e : il (-(M + 1)) k = -k:=by unfold il;rw [if_pos (by omega)]
    rw [e,Int.neg_neg]
    refine ⟨fun l hl=>?_,?_⟩
    ·simp only [List.mem_cons,List.not_mem_nil,or_false] at hl
     rcases hl with rfl | rfl
     ·exact hV
     ·exact hkv.neg
    ·unfold gu
     rw [List.any_cons,List.any_cons,List.any_nil,Bool.or_false,hs1,ht,jN τ hkv.1]
     cases hk2 : sat τ k with
     | false=>simp
     | true =>
      have : (vals.map (sat τ)).any id = true:=List.any_eq_true.2 ⟨_,List.mem_map.2 ⟨k,hk,rfl⟩,by rw [hk2];rfl⟩
      rw [this];rfl
   | false =>
    simp only [Bool.false_eq_true,if_false] at ht ⊢
    have e : il (M + 1) k = k:=by unfold il;rw [if_neg (by omega)]
    rw [e]
    refine ⟨fun l hl=>?_,?_⟩
    ·simp only [List.mem_cons,List.not_mem_nil,or_false] at hl
     rcases hl with rfl | rfl
     ·exact hV.neg
     ·exact hkv
    ·unfold gu
     rw [List.any_cons,List.any_cons,List.any_nil,Bool.or_false,hs2,ht]
     cases hk2 : sat τ k with
     | true=>simp
     | false =>
      have : (vals.map (sat τ)).all id = false:=List.all_eq_false.2 ⟨_,List.mem_map.2 ⟨k,hk,rfl⟩,by rw [hk2];decide⟩
      rw [this];rfl
 ·rw [List.mem_singleton] at hcm
  subst hcm
  cases b with
  | true =>
   simp only [if_true] at ht ⊢
   have e : (vals.map fun k=>-il (-(M + 1)) k) = vals:=by
    have : ∀ k,-il (-(M + 1)) k = k:=fun k=>by unfold il;rw [if_pos (by omega),Int.neg_neg]
    simp [this]
   rw [e]
   refine ⟨fun l hl=>?_,?_⟩
   ·rcases List.mem_cons.1 hl with rfl | hl
    ·exact hV.neg
    ·exact (hv l hl).le (by omega)
   ·unfold gu
    rw [List.any_cons,hs2,ht]
    have : vals.any (sat τ) = (vals.map (sat τ)).any id:=by rw [List.any_map];rfl
    rw [this]
    cases (vals.map (sat τ)).any id <;> rfl
  | false =>
   simp only [Bool.false_eq_true,if_false] at ht ⊢
   have e : (vals.map fun k=>-il (M + 1) k) = vals.map fun k=>-k:=by
    have : ∀ k,il (M + 1) k = k:=fun k=>by unfold il;rw [if_neg (by omega)]
    simp [this]
   rw [e]
   refine ⟨fun l hl=>?_,?_⟩
   ·rcases List.mem_cons.1 hl with rfl | hl
    ·exact hV
    ·obtain ⟨k,hk,rfl⟩:=List.mem_map.1 hl
     exact ((hv k hk).le (by omega)).neg
   ·unfold gu
    rw [List.any_cons,hs1,ht,lw τ vals fun x hx=>(hv x hx).1]
    cases (vals.map (sat τ)).all id <;> rfl
mutual
theorem mE (u : Int→Int) (ls : List Ln) : ∀ (f : Fo) (N : Int) (cs : Cls) (τ : Nat→Bool),okk f→(∀ l ∈ nV f,l ∈ ls)→(ls.length : Int)≤N→AtR u ls τ→ClsOk N τ cs →
  ∃ τ',Agree N τ τ'∧N≤(dc ls f N cs).2.1∧VarB (dc ls f N cs).2.1 (dc ls f N cs).1∧sat τ' (dc ls f N cs).1 = tru u f∧ClsOk (dc ls f N cs).2.1 τ' (dc ls f N cs).2.2
 | .mk k l ks,N,cs,τ,hok,hlf,hN,hat,hcs=>by
  obtain ⟨hw,hks⟩:=hok
  rw [dc]
  have hlk : ∀ l ∈ g8 ks,l ∈ ls:=fun x hx=>hlf x (by rw [nV];exact List.mem_append.2 (.inr hx))
  by_cases k2 : k = 2
  ·rw [if_pos k2]
   have hl : l ∈ ls:=hlf l (by rw [nV,if_pos k2];simp)
   obtain ⟨i,hi,e,hg⟩:=vI (xJ hl)
   refine ⟨τ,.refl _ _,Int.le_refl _,?_,?_,hcs⟩
   ·simp only;rw [e];exact ⟨by omega,by omega,by omega⟩
   ·simp only
    rw [e]
    unfold sat
    rw [if_pos (by omega),show ((i : Int) + 1).toNat = i + 1 by omega,hat i hi,hg,k2,tT]
  rw [if_neg k2]
  by_cases k4 : k = 4
  ·rw [if_pos k4]
   obtain ⟨f,rfl⟩ : ∃ f,ks = [f]:=by
    unfold okW at hw
    rw [if_neg (by omega),if_neg k2,if_pos k4] at hw
    simp only [Bool.and_eq_true,decide_eq_true_eq] at hw
    match ks,hw.2.1 with
    | [f],_=>exact ⟨f,rfl⟩
   rw [jn]
   obtain ⟨τ',h1,h2,h3,h4,h5⟩:=mE u ls f N cs τ hks.1 (fun x hx=>hlk x (by rw [g8];exact List.mem_append.2 (.inl hx))) hN hat hcs
   refine ⟨τ',h1,h2,h3.neg,?_,h5⟩
   simp only
   rw [jN τ' h3.1,h4,k4,rx]
  rw [if_neg k4]
  have hN0 : 0≤N:=by omega
  obtain ⟨τ2,h1,h2,h3,h4,h5⟩:=qy u ls ks N cs [] τ hks hlk hN hat hcs (fun x hx=>absurd hx List.not_mem_nil)
  have hk : k = 0∧ks = []∨k = 1∧ks = []∨k = 5∨k = 6:=by
   unfold okW at hw
   split at hw
   ·rename_i h
    simp only [Bool.and_eq_true,decide_eq_true_eq] at hw
    have : ks = []:=List.eq_nil_of_length_eq_zero (by omega)
    rcases h with h | h
    ·exact .inl ⟨h,this⟩
    ·exact .inr (.inl ⟨h,this⟩)
   ·split at hw
    ·rename_i h
     rcases h with h | h
     ·exact .inr (.inr (.inl h))
     ·exact .inr (.inr (.inr h))
    ·cases hw
  generalize dU ls ks N cs [] = q at *
  obtain ⟨vals,M,cs2⟩:=q
  simp only at h2 h3 h4 h5 ⊢
  have hM : 0≤M:=by omega
  obtain ⟨τ3,hτ3⟩ : ∃ τ3 : Nat→Bool,τ3 = fun x=>if x = (M + 1).toNat then tru u (.mk k l ks) else τ2 x:=⟨_,rfl⟩
  have hag : Agree M τ2 τ3:=fun v hv=>by rw [hτ3];simp only;rw [if_neg (by omega)]
  have htop : τ3 (M + 1).toNat = tru u (.mk k l ks):=by rw [hτ3];simp
  have hvm : vals.map (sat τ3) = ks.map (tru u):=by
   rw [← List.nil_append (ks.map (tru u))]
   refine Eq.trans ?_ h4
   exact List.map_congr_left fun x hx=>ln hag (h3 x hx)
  have hcs3 : ClsOk (M + 1) τ3 cs2:=h5.up hag (by omega)
  have hval : ∀ b : Bool,(b = true ↔ k = 6∨k = 1)→tru u (.mk k l ks) = if b then (ks.map (tru u)).any id else (ks.map (tru u)).all id:=fun b hb=>by
   rcases hk with ⟨rfl,rfl⟩ | ⟨rfl,rfl⟩ | rfl | rfl
   ·have : b = false:=by cases b;rfl;exact absurd (hb.1 rfl) (by decide)
    subst this;rw [tru];simp
   ·have : b = true:=hb.2 (.inr rfl)
    subst this;rw [tru];simp
   ·have : b = false:=by cases b;rfl;exact absurd (hb.1 rfl) (by decide)
    subst this;rw [ou,rq];simp
   ·have : b = true:=hb.2 (.inl rfl)
    subst this;rw [ov,ru];simp
  have hb:=hval (decide (k = 6∨k = 1)) (by simp)
  have hfin:=xD hM hcs3 h3 (decide (k = 6∨k = 1)) (by rw [htop,hvm];exact hb)
  refine ⟨τ3,h1.trans hag h2,by omega,⟨by omega,by omega,by omega⟩,?_,?_⟩
  ·show sat τ3 (M + 1) = _
   unfold sat
   rw [if_pos (by omega)];exact htop
  ·by_cases h61 : k = 6∨k = 1
   ·rw [if_pos h61]
    rw [decide_eq_true h61,if_pos rfl] at hfin
    exact hfin
   ·rw [if_neg h61]
    rw [decide_eq_false h61,if_neg (by decide)] at hfin
    exact hfin
theorem qy (u : Int→Int) (ls : List Ln) : ∀ (ks : List Fo) (N : Int) (cs : Cls) (out : List Int) (τ : Nat→Bool),yW ks→(∀ l ∈ g8 ks,l ∈ ls)→(ls.length : Int)≤N→AtR u ls τ→ClsOk N τ cs→(∀ x ∈ out,VarB N x) →
  ∃ τ',Agree N τ τ'∧N≤(dU ls ks N cs out).2.1∧(∀ x ∈ (dU ls ks N cs out).1,VarB (dU ls ks N cs out).2.1 x)∧(dU ls ks N cs out).1.map (sat τ') = out.map (sat τ) ++ ks.map (tru u)∧ClsOk (dU ls ks N cs out).2.1 τ' (dU ls ks N cs out).2.2
 | [],N,cs,out,τ,_,_,_,_,hcs,ho=>by
  rw [dU]
  exact ⟨τ,.refl _ _,Int.le_refl _,ho,by simp,hcs⟩
 | f :: r,N,cs,out,τ,hok,hlf,hN,hat,hcs,ho=>by
  rw [dU]
  obtain ⟨τ1,a1,a2,a3,a4,a5⟩:=mE u ls f N cs τ hok.1 (fun x hx=>hlf x (by rw [g8];exact List.mem_append.2 (.inl hx))) hN hat hcs
  obtain ⟨τ2,b1,b2,b3,b4,b5⟩:=qy u ls r (dc ls f N cs).2.1 (dc ls f N cs).2.2 (out ++ [(dc ls f N cs).1]) τ1 hok.2 (fun x hx=>hlf x (by rw [g8];exact List.mem_append.2 (.inr hx))) (by omega) (hat.agree a1 hN) a5 (fun x hx=>by
   rcases List.mem_append.1 hx with hx | hx
   ·exact (ho x hx).le a2
   ·rw [List.mem_singleton] at hx;subst hx;exact a3)
  refine ⟨τ2,a1.trans b1 a2,by omega,b3,?_,b5⟩
  rw [b4,List.map_append,List.map_cons,List.map_nil,a4,List.map_cons]
  have : out.map (sat τ1) = out.map (sat τ):=List.map_congr_left fun x hx=>ln a1 (ho x hx)
  rw [this];simp
end
end Go.Proofs.YtmpdocplcgbpkaaGreatDoor

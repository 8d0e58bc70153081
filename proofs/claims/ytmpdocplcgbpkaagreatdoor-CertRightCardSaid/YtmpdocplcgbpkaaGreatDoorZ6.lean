/- K: the walk's rules. No program is in sight. K: tokens for rows that hang in a box. No program is in sight. K: step by step: one operation at a time, what comes behind it not in sight. No program is in sight. -/
import Derived.Test.YtmpdocplcgbpkaaGreatDoorZ5
import Derived.Test.YtmpdocplcgbpkaaGreatDoorZ3
namespace Go.Proofs.YtmpdocplcgbpkaaGreatDoor
set_option linter.unusedSimpArgs false
set_option linter.unusedVariables false
open Go.RowKit
attribute [go_sem] isM jq jV g7 kD kZ lZ l5 gX TR.wp aop rdo rdos be cC ck dn c9 ret fail ofV kLd my pp o8 yt nu iL ph iM pi mv kB zD gJ k7 iE kUn nT kC sr ik jg pf jU gQ iN pm pn ws po l6 dz pd lY zX wt rdRow gU dv f7 lx zj i7 r9 fx fY pj pe ij o9 gP yh eo ren dq fJ pY rdBoxes gather bJ dL gA zV tt pg so AF nv AV.one bX ee cN putAt kr gF cy j0 mrm mgc tv gD List.any_cons List.any_nil aO aA fin uU vp eX iF eL vZ ka tr AH eT xz lM j1 iK
def tk0 : FuncId→Bool:=fun _=>true
attribute [go_sem] tk0 Option.isSome_some Option.isSome_none Value.oneCell' Nat.min_def if_true if_false and_true true_and and_false false_and or_true true_or or_false false_or not_true not_false_eq_true Bool.not_true Bool.not_false ne_eq List.length_cons List.length_nil List.length_map List.map_cons List.map_nil List.append_nil List.nil_append List.cons_append List.getD_cons_zero List.getD_cons_succ List.drop_succ_cons List.drop_zero List.take_succ_cons List.take_zero List.drop_nil List.take_nil List.flatMap_cons List.flatMap_nil List.zip_cons_cons List.zip_nil_left List.zip_nil_right List.getElem?_toArray List.getElem?_cons_zero List.getElem?_cons_succ List.getElem?_nil List.contains_cons List.contains_nil List.mapM_cons List.mapM_nil List.all_cons List.all_nil List.range_zero List.range_succ Option.bind_some Option.bind_none Option.map_some Option.map_none Option.pure_def Option.bind_eq_bind Bool.and_false Bool.false_and Bool.and_true Bool.true_and Bool.or_false Bool.false_or Bool.or_true Bool.true_or Bool.and_eq_true beq_self_eq_true Nat.zero_add Nat.add_zero Nat.zero_mul Nat.mul_one Nat.one_mul Nat.mul_zero Nat.sub_zero Int.toNat_zero exists_eq_left exists_eq' Nat.add_eq_zero_iff decide_eq_true_eq decide_true decide_false bne_self_eq_false Nat.beq_eq_true_eq beq_iff_eq Array.toList_map Int.toNat_natCast
theorem bp {p q : Prop} (hp : p) (hq : q) : p∧q:=⟨hp,hq⟩
def nK (E : Env) (x y : Code) (Q : Exit→bv→Prop) (σ : bv) : AV→Prop
 | .c (.bool b)=>(b = true→aw E x Q σ)∧(b = false→aw E y Q σ)
 | _=>False
theorem vL {E : Env} {Q : Exit→bv→Prop} {σ : bv} {t : Nat} {x y : Code} (ht : t < 10000) (h : ∀ v,be σ t = v→nK E x y Q σ v) : aw E (.cond (.tmp t) x y) Q σ:=by
 replace h:=h _ rfl
 unfold nK at h
 split at h
 ·rename_i b hb;exact xL ht hb h.1 h.2
 ·exact h.elim
theorem ap {E : Env} {Q : Exit→bv→Prop} {σ : bv} {x y : Code} (h : aw E x Q σ) : nK E x y Q σ (.c (.bool true)):=⟨(fun _=>h),(fun e=>by cases e)⟩
theorem aq {E : Env} {Q : Exit→bv→Prop} {σ : bv} {x y : Code} (h : aw E y Q σ) : nK E x y Q σ (.c (.bool false)):=⟨(fun e=>by cases e),(fun _=>h)⟩
theorem gM {E : Env} {Q : Exit→bv→Prop} {σ : bv} {x y : Code} {b : Bool} (h1 : b = true→aw E x Q σ) (h2 : b = false→aw E y Q σ) : nK E x y Q σ (.c (.bool b)):=⟨h1,h2⟩
theorem rR {E : Env} {Q : Exit→bv→Prop} {σ : bv} (tk : FuncId→Bool) (LV : Nat→List Nat) {id : Nat} {l : List Oper} (h : ∀ K : bv→Prop,(∀ σ',Q .normal σ'→K σ')→gX E.P E.N tk l.toArray l (gD (LV id) σ) K) : aw E (.region id l.toArray false) Q σ :=
 gn (hU (LV id) σ) (un tk h)
theorem vN {E : Env} {Q : Exit→bv→Prop} {σ : bv} (tk : FuncId→Bool) (LV : Nat→List Nat) {id : Nat} {l : List Oper} (hm : E.P.follows .mixedOrders = true)
  (h : ∀ K : bv→List Rec→Prop,(∀ σ' recs,j2 l recs = true→Q .normal σ'→K σ' recs)→fj E.P E.N tk l.toArray l (gD (LV id) σ) [] K) : aw E (.region id l.toArray true) Q σ:=gn (hU (LV id) σ) (vM tk hm h)
theorem ai {K : bv→Prop} {Q : Exit→bv→Prop} {σ : bv} (h : K σ) : lM K Q .normal σ:=h
theorem bC {K : bv→Prop} {Q : Exit→bv→Prop} {σ : bv} {e : Nat} (h : Q (.exit e) σ) : lM K Q (.exit e) σ:=h
theorem aS {K : bv→Prop} {Q : Exit→bv→Prop} {σ : bv} (h : Q .ret σ) : lM K Q .ret σ:=h
theorem aU {id : Nat} {Q : Exit→bv→Prop} {σ : bv} (h : Q .normal σ) : j1 id Q .normal σ:=h
theorem bb {id : Nat} {Q : Exit→bv→Prop} {σ : bv} (h : Q .ret σ) : j1 id Q .ret σ:=h
theorem bg {id : Nat} {Q : Exit→bv→Prop} {σ : bv} (h : Q .normal σ) : j1 id Q (.exit id) σ:=by simp only [j1,if_true];exact h
theorem bi {E : Env} {Q : Exit→bv→Prop} {σ : bv} {c : Code} (L : List Nat) {σ' : bv} (hσ : gD L σ = σ') (h : awl E c Q σ') : awl E c Q σ:=eu (hU L σ) (hσ ▸ h)
theorem gY {E : Env} {Q : Exit→bv→Prop} {σ σ' : bv} {c : Code} (h : awl E c Q σ') (e : σ = σ') : awl E c Q σ:=e ▸ h
theorem bK {E : Env} {Q : Exit→bv→Prop} {c : Code} {α : Type} (I : α→bv) (P : α→Prop) (m : α→Nat) (x0 : α) {σ : bv} (L : List Nat) (h0 : gD L σ = I x0) (hp : P x0)
  (step : ∀ x,P x→(∀ y,P y→m y < m x→awl E c Q (I y))→aw E c (lM (awl E c Q) Q) (I x)) : awl E c Q σ:=by
 have all : ∀ n x,m x = n→P x→awl E c Q (I x):=fun n=>by
  induction n using Nat.strongRecOn with
  | _ n ih=>exact fun x hx hP=>fm (step x hP fun y hy hm=>ih (m y) (hx ▸ hm) y rfl hy)
 exact eu (hU L σ) (h0 ▸ all _ x0 rfl hp)
theorem aY {x : Int} (h1 : -9223372036854775808≤x) (h2 : x≤9223372036854775807) : IntKind.i64.wrap x = x:=by
 have e : IntKind.i64.wrap x = if x % 18446744073709551616 ≥ 9223372036854775808 then x % 18446744073709551616 - 18446744073709551616 else x % 18446744073709551616:=by
  simp [IntKind.wrap,IntKind.bits,IntKind.signed]
 rw [e]
 split <;> omega
end Go.Proofs.YtmpdocplcgbpkaaGreatDoor
namespace Go.Proofs.YtmpdocplcgbpkaaGreatDoor
set_option linter.unusedSimpArgs false
set_option linter.unusedVariables false
open Go.RowKit
theorem dm {E : Env} {σ : bv} {b k0 i n : Nat} {cs cells : List AV} {ty : TypeId} (e : TypeId) (hb : 10000≤b∧b < 20000) (hk0 : 10000≤k0∧k0 < 1000000) (hne : ¬ k0 = b) (hu : be σ b = .u) (hB : be σ k0 = .bc cells ty)
  (hi : cells[i]? = some (.sl cs n .full)) : ALe E σ (cC (cC σ b (.bt n e)) k0 (.bc (cells.set i (.sl cs n (.tok b))) ty)):=fun a w G hs=>by
 have hm : ∀ k,be (cC (cC σ b (.bt n e)) k0 (.bc (cells.set i (.sl cs n (.tok b))) ty)) k = if k0 = k then .bc (cells.set i (.sl cs n (.tok b))) ty else if b = k then .bt n e else be σ k:=fun k=>by rw [bO,bO]
 have hub : lm σ b = .u:=(ca (by omega)).trans hu
 have hBl : lm σ k0 = .bc cells ty:=(ca hk0.2).trans hB
 have hlm : ∀ k,10000≤k→lm (cC (cC σ b (.bt n e)) k0 (.bc (cells.set i (.sl cs n (.tok b))) ty)) k = if k0 = k then .bc (cells.set i (.sl cs n (.tok b))) ty else if b = k then .bt n e else lm σ k:=fun k hk=>by
  have e1 : ∀ k,10000≤k→lm (cC σ b (.bt n e)) k = if b = k then .bt n e else lm σ k:=fA (fun k _ _=>bO ..) (by omega) (by rw [hu];rfl) rfl
  have e2 : ∀ k,10000≤k→lm (cC (cC σ b (.bt n e)) k0 (.bc (cells.set i (.sl cs n (.tok b))) ty)) k = if k0 = k then .bc (cells.set i (.sl cs n (.tok b))) ty else lm (cC σ b (.bt n e)) k:=fA (fun k _ _=>bO ..) hk0.2 (by rw [bO,if_neg (fun e=>hne e.symm),hB];rfl) rfl
  rw [e2 k hk]
  split
  ·rfl
  ·exact e1 k hk
 generalize cC (cC σ b (.bt n e)) k0 (.bc (cells.set i (.sl cs n (.tok b))) ty) = σ' at hm hlm
 have hγ : G.γ b = none:=by
  cases hg : G.γ b with
  | none=>rfl
  | some g =>
   exact ((hs.st.box b g hg).2.2.not_u ((ca (by omega)).trans hu)).elim
 have hst : BStep G (lm σ) G (lm σ'):=⟨.refl _,fun k hk=>by
  rw [hlm k hk]
  by_cases h0 : k0 = k
  ·subst h0;rw [if_pos rfl];exact .bc hBl rfl rfl
  rw [if_neg h0]
  by_cases h1 : b = k
  ·subst h1;exact .u hub
  ·rw [if_neg h1];exact .same rfl rfl rfl rfl⟩
 refine ⟨G,hs.defers,hs.tsize,fun k hk=>?_,⟨hs.st.agree,fun k g hk=>?_,fun k cs' ty' hk hc=>?_,hs.st.inj,hs.st.gl⟩,hs.fr,hs.step.trans hst,hs.zp⟩
 ·rw [hm,if_neg (by omega),if_neg (by omega)];exact (hs.slots k hk).step hst
 ·obtain ⟨h1,h2,h3⟩:=hs.st.box k g hk
  refine ⟨h1,h2,?_⟩
  by_cases h0 : k0 = k
  ·subst h0
   rcases h3 with ⟨cs1,ty1,q1,⟨qm,c,q2,q3,q4,q5⟩ | ⟨qm,es,clk,q2,q3,q4⟩⟩ | ⟨_,_,q1,_⟩ | ⟨_,_,_,_,q1,_⟩
   ·rw [hBl] at q1;cases q1
    refine .inl ⟨_,_,by rw [hlm _ h1,if_pos rfl],.inl ⟨qm,c,q2,(by unfold FitsC;rw [List.length_set];exact q3),q4,fun j hj=>?_⟩⟩
    have hj' : j < cells.length:=by simpa using hj
    obtain ⟨r1,r2⟩:=q5 j hj'
    refine ⟨?_,r2⟩
    rw [List.getElem_set]
    split
    ·rename_i hij
     subst hij
     obtain ⟨hl,hi2⟩:=List.getElem?_eq_some_iff.1 hi
     rw [hi2] at r1
     obtain ⟨ad,cap,b',off,f,ev,⟨p1,p2,p3,p4,p5⟩,hf,_⟩:=dR r1
     rw [ev]
     refine .tok ad n cap cs b n e (.sl ad b' off n cap .none cs f (.inl rfl) p1 p2 p3 p4 p5) hb.1 (by rw [hlm _ hb.1,if_neg hne,if_pos rfl]) (Nat.le_refl _) fun _=>⟨fun _=>hf rfl,fun g hg=>by rw [hγ] at hg;cases hg⟩
    ·exact r1.step hst
   ·rw [hBl] at q1;cases q1
    obtain ⟨q4,_⟩:=q4
    rw [q4] at hi
    obtain ⟨v,hv⟩:=mM (List.mem_of_getElem? hi)
    cases hv
   ·rw [hBl] at q1;cases q1
   ·rw [hBl] at q1;cases q1
  ·refine h3.step hst ?_ rfl rfl rfl fun _=>rfl
   rw [hlm k h1,if_neg h0,if_neg (fun h4=>by rw [← h4,hγ] at hk;cases hk)]
 ·rw [hlm k hk] at hc
  by_cases h0 : k0 = k
  ·subst h0;exact hs.st.real k0 cells ty hk0.1 hBl
  rw [if_neg h0] at hc
  by_cases h1 : b = k
  ·rw [if_pos h1] at hc;cases hc
  ·rw [if_neg h1] at hc;exact hs.st.real k cs' ty' hk hc
theorem xF {E : Env} {σ : bv} {b k0 i : Nat} {cells : List AV} {ty : TypeId} (e sz : Nat) (hb : 10000≤b∧b < 20000) (hk0 : 10000≤k0∧k0 < 1000000) (hne : ¬ k0 = b) (hu : be σ b = .u) (hB : be σ k0 = .bc cells ty)
  (hi : cells[i]? = some (.sl [] 0 .full)) : ALe E σ (cC (cC σ b (.br [] 0 e sz)) k0 (.bc (cells.set i (.ow b 0 0 0)) ty)):=fun a w G hs=>by
 have hm : ∀ k,be (cC (cC σ b (.br [] 0 e sz)) k0 (.bc (cells.set i (.ow b 0 0 0)) ty)) k = if k0 = k then .bc (cells.set i (.ow b 0 0 0)) ty else if b = k then .br [] 0 e sz else be σ k:=fun k=>by rw [bO,bO]
 have hub : lm σ b = .u:=(ca (by omega)).trans hu
 have hBl : lm σ k0 = .bc cells ty:=(ca hk0.2).trans hB
 have hlm : ∀ k,10000≤k→lm (cC (cC σ b (.br [] 0 e sz)) k0 (.bc (cells.set i (.ow b 0 0 0)) ty)) k = if k0 = k then .bc (cells.set i (.ow b 0 0 0)) ty else if b = k then .br [] 0 e sz else lm σ k:=fun k hk=>by
  have e1 : ∀ k,10000≤k→lm (cC σ b (.br [] 0 e sz)) k = if b = k then .br [] 0 e sz else lm σ k:=fA (fun k _ _=>bO ..) (by omega) (by rw [hu];rfl) rfl
  have e2 : ∀ k,10000≤k→lm (cC (cC σ b (.br [] 0 e sz)) k0 (.bc (cells.set i (.ow b 0 0 0)) ty)) k = if k0 = k then .bc (cells.set i (.ow b 0 0 0)) ty else lm (cC σ b (.br [] 0 e sz)) k:=fA (fun k _ _=>bO ..) hk0.2 (by rw [bO,if_neg (fun e=>hne e.symm),hB];rfl) rfl
  rw [e2 k hk]
  split
  ·rfl
  ·exact e1 k hk
 generalize cC (cC σ b (.br [] 0 e sz)) k0 (.bc (cells.set i (.ow b 0 0 0)) ty) = σ' at hm hlm
 have hγ : G.γ b = none:=by
  cases hg : G.γ b with
  | none=>rfl
  | some g =>
   exact ((hs.st.box b g hg).2.2.not_u ((ca (by omega)).trans hu)).elim
 have hst : BStep G (lm σ) G (lm σ'):=⟨.refl _,fun k hk=>by
  rw [hlm k hk]
  by_cases h0 : k0 = k
  ·subst h0;rw [if_pos rfl];exact .bc hBl rfl rfl
  rw [if_neg h0]
  by_cases h1 : b = k
  ·subst h1;exact .u hub
  ·rw [if_neg h1];exact .same rfl rfl rfl rfl⟩
 refine ⟨G,hs.defers,hs.tsize,fun k hk=>?_,⟨hs.st.agree,fun k g hk=>?_,fun k cs' ty' hk hc=>?_,hs.st.inj,hs.st.gl⟩,hs.fr,hs.step.trans hst,hs.zp⟩
 ·rw [hm,if_neg (by omega),if_neg (by omega)];exact (hs.slots k hk).step hst
 ·obtain ⟨h1,h2,h3⟩:=hs.st.box k g hk
  refine ⟨h1,h2,?_⟩
  by_cases h0 : k0 = k
  ·subst h0
   rcases h3 with ⟨cs1,ty1,q1,⟨qm,c,q2,q3,q4,q5⟩ | ⟨qm,es,clk,q2,q3,q4⟩⟩ | ⟨_,_,q1,_⟩ | ⟨_,_,_,_,q1,_⟩
   ·rw [hBl] at q1;cases q1
    refine .inl ⟨_,_,by rw [hlm _ h1,if_pos rfl],.inl ⟨qm,c,q2,(by unfold FitsC;rw [List.length_set];exact q3),q4,fun j hj=>?_⟩⟩
    have hj' : j < cells.length:=by simpa using hj
    obtain ⟨r1,r2⟩:=q5 j hj'
    refine ⟨?_,r2⟩
    rw [List.getElem_set]
    split
    ·rename_i hij
     subst hij
     obtain ⟨hl,hi2⟩:=List.getElem?_eq_some_iff.1 hi
     rw [hi2] at r1
     obtain ⟨ad,cap,b',off,f,ev,⟨p1,p2,p3,p4,p5⟩,hf,_⟩:=dR r1
     rw [ev]
     have hcap:=hf rfl
     exact .ow ad 0 cap b 0 0 [] 0 e sz hb.1 (by rw [hlm _ hb.1,if_neg hne,if_pos rfl]) p1 (fun _=>hcap) (Nat.le_refl _) fun _=>⟨fun _=>hcap,fun g hg=>by rw [hγ] at hg;cases hg⟩
    ·exact r1.step hst
   ·rw [hBl] at q1;cases q1
    obtain ⟨q4,_⟩:=q4
    rw [q4] at hi
    obtain ⟨v,hv⟩:=mM (List.mem_of_getElem? hi)
    cases hv
   ·rw [hBl] at q1;cases q1
   ·rw [hBl] at q1;cases q1
  ·refine h3.step hst ?_ rfl rfl rfl fun _=>rfl
   rw [hlm k h1,if_neg h0,if_neg (fun h4=>by rw [← h4,hγ] at hk;cases hk)]
 ·rw [hlm k hk] at hc
  by_cases h0 : k0 = k
  ·subst h0;exact hs.st.real k0 cells ty hk0.1 hBl
  rw [if_neg h0] at hc
  by_cases h1 : b = k
  ·rw [if_pos h1] at hc;cases hc
  ·rw [if_neg h1] at hc;exact hs.st.real k cs' ty' hk hc
end Go.Proofs.YtmpdocplcgbpkaaGreatDoor
namespace Go.Proofs.YtmpdocplcgbpkaaGreatDoor
set_option linter.unusedSimpArgs false
set_option linter.unusedVariables false
open Go.RowKit
def lQ (p : Prop) : Prop:=p
theorem aa {p : Prop} (h : p) : lQ p:=h
def EqTo {α : Type} (e : α) (X : α→Prop) : Prop:=∀ v,e = v→X v
theorem ab {α : Type} {e : α} {X : α→Prop} (h : ∀ Y : α→Prop,(∀ v,X v→Y v)→lQ (Y e)) : EqTo e X:=fun v hv=>hv ▸ h X fun _ h=>h
theorem EqTo.out {α : Type} {e : α} {X : α→Prop} (h : EqTo e X) : X e:=h _ rfl
def vw (p q : Prop) : Prop:=p∧q
theorem cS {p q : Prop} (h : lQ p) (k : q) : vw p q:=⟨h,k⟩
def j6 (v : AV) (want : Bool) (A B C : Prop) : Prop:=match v with | .c (.bool b)=>(b = want→A)∧(b = !want→B) | .c (.tuple _)=>C | _=>False
theorem eY {want : Bool} {A B C : Prop} (h : C) : j6 (.c undef) want A B C:=h
theorem aL {want : Bool} {A B C : Prop} (h : A) : j6 (.c (.bool want)) want A B C:=⟨fun _=>h,fun e=>by cases want <;> cases e⟩
theorem bh {b want : Bool} {A B C : Prop} (hb : b = !want) (h : B) : j6 (.c (.bool b)) want A B C:=⟨(fun e=>by subst e;cases b <;> cases hb),fun _=>h⟩
def gO (d : Option Nat) (X : Nat→Prop) : Prop:=match d with | some t=>t < 10000∧X t | none=>False
theorem aG {t : Nat} {X : Nat→Prop} (ht : t < 10000) (h : X t) : gO (some t) X:=⟨ht,h⟩
def Af (P : Program) (N : Nat) (tk : FuncId→Bool) (ops : Array Oper) (o : Oper) (r : List Oper) (K : bv→Prop) (σ : bv) : Prop :=
 ∀ K' : List (Nat × AV)→Prop,(∀ e,EqTo (ck σ e) (fun σ'=>gX P N tk ops r σ' K)→K' e)→lQ ((aop P N tk o).wp P σ fun _ e=>K' e)
def vz (P : Program) (N : Nat) (tk : FuncId→Bool) (ops : Array Oper) (o : Oper) (r : List Oper) (acc : List Rec) (pre : List Nat) (K : bv→List Rec→Prop) (σ : bv) : Prop :=
 ∀ K' : List Nat→List (Nat × AV)→Prop,(∀ R e,EqTo (ck σ e) (fun σ'=>fj P N tk ops r σ' (acc ++ [(pre ++ R,e)]) K)→K' R e)→lQ ((aop P N tk o).wp P σ fun R e=>K' R e)
section
variable {P : Program} {N : Nat} {tk : FuncId→Bool} {ops : Array Oper} {r : List Oper} {σ : bv} {o : Oper} {g : Nat} {want : Bool}
theorem ar {K : bv→Prop} (h : ∀ K' : List (Nat × AV)→Prop,(∀ e,EqTo (ck σ e) (fun σ'=>gX P N tk ops r σ' K)→K' e)→lQ ((aop P N tk o).wp P σ fun _ e=>K' e)) : Af P N tk ops o r K σ:=h
theorem cT {acc : List Rec} {pre : List Nat} {K : bv→List Rec→Prop} (h : ∀ K' : List Nat→List (Nat × AV)→Prop,(∀ R e,EqTo (ck σ e) (fun σ'=>fj P N tk ops r σ' (acc ++ [(pre ++ R,e)]) K)→K' R e)→lQ ((aop P N tk o).wp P σ fun R e=>K' R e)) : vz P N tk ops o r acc pre K σ:=h
theorem af {K : bv→Prop} (h : K σ) : gX P N tk ops [] σ K:=h
theorem an {K : bv→Prop} (hg : o.guard = none) (h : Af P N tk ops o r K σ) : gX P N tk ops (o :: r) σ K:=by
 unfold gX;rw [hg];exact h _ fun e h=>h.out
theorem bl {K : bv→Prop} (hg : o.guard = some (g,want))
  (h : EqTo (kr ops g) fun d=>gO d fun t=>EqTo (be σ t) fun v=>j6 v want (EqTo (cC σ t (.c (.bool want))) (Af P N tk ops o r K))
   (vw (c9 N o) (EqTo (ck (cC σ t (.c (.bool (!want)))) (dn o (.c undef))) fun σ'=>gX P N tk ops r σ' K))
   (vw (c9 N o) (EqTo (ck σ (dn o (.c undef))) fun σ'=>gX P N tk ops r σ' K))) : gX P N tk ops (o :: r) σ K:=by
 replace h:=h.out
 unfold gX
 rw [hg]
 unfold gO at h
 split at h
 ·rename_i t ht
  simp only [ht]
  obtain ⟨h10,h⟩:=h
  replace h:=h.out
  refine ⟨h10,?_⟩
  unfold j6 at h
  split at h
  ·rename_i b hb
   simp only [hb]
   by_cases e : b = want
   ·rw [if_pos e];exact (h.1 e).out _ fun e h=>h.out
   ·rw [if_neg e]
    have h2:=h.2 (by cases b <;> cases want <;> simp_all)
    exact ⟨h2.1,h2.2.out⟩
  ·rename_i hb
   simp only [hb]
   exact ⟨h.1,h.2.out⟩
  ·exact h.elim
 ·exact h.elim
theorem ch {acc : List Rec} {K : bv→List Rec→Prop} (h : K σ acc) : fj P N tk ops [] σ acc K:=h
theorem cV {acc : List Rec} {K : bv→List Rec→Prop} (hg : o.guard = none) (h : vz P N tk ops o r acc [] K σ) : fj P N tk ops (o :: r) σ acc K:=by
 unfold fj;rw [hg];exact h _ fun R e h=>h.out
theorem eU {acc : List Rec} {K : bv→List Rec→Prop} (hg : o.guard = some (g,want))
  (h : EqTo (kr ops g) fun d=>gO d fun t=>EqTo (be σ t) fun v=>j6 v want (EqTo (cC σ t (.c (.bool want))) (vz P N tk ops o r acc [t] K))
   (vw (c9 N o) (EqTo (ck (cC σ t (.c (.bool (!want)))) (dn o (.c undef))) fun σ'=>fj P N tk ops r σ' (acc ++ [([t],dn o (.c undef))]) K))
   (vw (c9 N o) (EqTo (ck σ (dn o (.c undef))) fun σ'=>fj P N tk ops r σ' (acc ++ [([t],dn o (.c undef))]) K))) : fj P N tk ops (o :: r) σ acc K:=by
 replace h:=h.out
 unfold fj
 rw [hg]
 unfold gO at h
 split at h
 ·rename_i t ht
  simp only [ht]
  obtain ⟨h10,h⟩:=h
  replace h:=h.out
  refine ⟨h10,?_⟩
  unfold j6 at h
  split at h
  ·rename_i b hb
   simp only [hb]
   by_cases e : b = want
   ·rw [if_pos e];exact (h.1 e).out _ fun R e h=>h.out
   ·rw [if_neg e]
    have h2:=h.2 (by cases b <;> cases want <;> simp_all)
    exact ⟨h2.1,h2.2.out⟩
  ·rename_i hb
   simp only [hb]
   exact ⟨h.1,h.2.out⟩
  ·exact h.elim
 ·exact h.elim
end
def Ae (E : Env) (Q : Exit→bv→Prop) (tk : FuncId→Bool) (l : List Oper) (σ₁ : bv) : Prop:=∀ K : bv→Prop,(∀ σ',Q .normal σ'→K σ')→gX E.P E.N tk l.toArray l σ₁ K
theorem ay {E : Env} {Q : Exit→bv→Prop} {tk : FuncId→Bool} {l : List Oper} {σ₁ : bv} (h : ∀ K : bv→Prop,(∀ σ',Q .normal σ'→K σ')→gX E.P E.N tk l.toArray l σ₁ K) : Ae E Q tk l σ₁:=h
def Ad (E : Env) (Q : Exit→bv→Prop) (tk : FuncId→Bool) (l : List Oper) (σ₁ : bv) : Prop:=∀ K : bv→List Rec→Prop,(∀ σ' recs,j2 l recs = true→Q .normal σ'→K σ' recs)→fj E.P E.N tk l.toArray l σ₁ [] K
theorem eN {E : Env} {Q : Exit→bv→Prop} {tk : FuncId→Bool} {l : List Oper} {σ₁ : bv} (h : ∀ K : bv→List Rec→Prop,(∀ σ' recs,j2 l recs = true→Q .normal σ'→K σ' recs)→fj E.P E.N tk l.toArray l σ₁ [] K) : Ad E Q tk l σ₁:=h
theorem ae {E : Env} {Q : Exit→bv→Prop} {σ : bv} (tk : FuncId→Bool) (LV : Nat→List Nat) {id : Nat} {l : List Oper} (h : EqTo (gD (LV id) σ) (Ae E Q tk l)) : aw E (.region id l.toArray false) Q σ :=
 rR tk LV fun K hK=>h.out K hK
theorem cg {E : Env} {Q : Exit→bv→Prop} {σ : bv} (tk : FuncId→Bool) (LV : Nat→List Nat) {id : Nat} {l : List Oper} (hm : E.P.follows .mixedOrders = true) (h : EqTo (gD (LV id) σ) (Ad E Q tk l)) : aw E (.region id l.toArray true) Q σ :=
 vN tk LV hm fun K hK=>h.out K hK
theorem ag {E : Env} {Q : Exit→bv→Prop} {σ : bv} {t : Nat} {x y : Code} (ht : t < 10000) (h : EqTo (be σ t) (nK E x y Q σ)) : aw E (.cond (.tmp t) x y) Q σ:=vL ht fun v hv=>h v hv
theorem ah {P : Program} {f : FuncId} {a b bxs' : List AV} {r : AV} {X : AV→List AV→Prop} (h : AFn P f a b r bxs') (k : lQ (X r bxs')) : ∃ r bxs',AFn P f a b r bxs'∧X r bxs':=⟨r,bxs',h,k⟩
theorem ce {X : World→Result Value} {v : Value} {Q : Value→Prop} (h : ∀ w,X w = .ok v w) (k : lQ (Q v)) : ∃ v,(∀ w,X w = .ok v w)∧Q v:=⟨v,h,k⟩
theorem v6 {X : Value→Prop} (k : lQ (X (.bool true))) : ∃ v : Value,(v = .bool true∨v = .bool false)∧X v:=⟨_,.inl rfl,k⟩
theorem ao {P : Program} {fn : Func} {nb : Nat} {nw : List Nat} {r : AV} {bxs : List AV} {σ : bv} (h : lQ (fin P fn nb nw r bxs σ)) : xz P fn nb nw r bxs .ret σ:=h
theorem iS {P : Program} {fn : Func} {nb : Nat} {nw : List Nat} {r : AV} {bxs : List AV} {σ : bv} (h : lQ (fin P fn nb nw r bxs σ)) : xz P fn nb nw r bxs .normal σ:=h
section
variable {P : Program} {N : Nat} {o : Oper} {σ : bv} {K : List Nat→List (Nat × AV)→Prop}
theorem zI {d : List (Nat × AV)} : TR.wp P (.done d) σ K = K [] d:=rfl
theorem BG {k : Nat} {f : AV→TR} : TR.wp P (.rd k f) σ K = (f (be σ k)).wp P σ fun R d=>K (k :: R) d:=rfl
theorem zJ {p : Prop} {t : TR} : TR.wp P (.need p t) σ K = (p∧t.wp P σ K):=rfl
theorem BF {p : Value→Prop} {f : Value→TR} : TR.wp P (.ex p f) σ K = ∃ v,p v∧(f v).wp P σ K:=rfl
theorem zH {f : FuncId} {args bxs : List AV} {k : AV→List AV→TR} : TR.wp P (.call f args bxs k) σ K = ∃ r bxs',AFn P f args bxs r bxs'∧(k r bxs').wp P σ K:=rfl
theorem s5 {t : Nat} {f : AV→TR} : TR.wp P (rdo (.tmp t) f) σ K = (t < 10000∧TR.wp P (f (be σ t)) σ fun R d=>K (t :: R) d):=rfl
theorem pU {v : Value} {f : AV→TR} : TR.wp P (rdo (.const v) f) σ K = TR.wp P (f (ofV v)) σ K:=rfl
theorem nD {g : Nat} {f : AV→TR} : TR.wp P (rdo (.global g) f) σ K = TR.wp P (f (tp g)) σ K:=rfl
theorem rF {i : Nat} {f : AV→TR} : TR.wp P (rdo (.func i) f) σ K = TR.wp P (f (.fn (.func i) [] [])) σ K:=rfl
theorem rG {f : List AV→TR} : TR.wp P (rdos [] f) σ K = TR.wp P (f []) σ K:=rfl
theorem pV {x : Operand} {l : List Operand} {f : List AV→TR} : TR.wp P (rdos (x :: l) f) σ K = TR.wp P (rdo x fun v=>rdos l fun vs=>f (v :: vs)) σ K:=rfl
theorem pS {f : Option AV→TR} : TR.wp P (nv none f) σ K = TR.wp P (f none) σ K:=rfl
theorem pT {x : Operand} {f : Option AV→TR} : TR.wp P (nv (some x) f) σ K = TR.wp P (rdo x fun v=>f (some v)) σ K:=rfl
theorem wp_ret {v : AV} : TR.wp P (ret N o v) σ K = (c9 N o∧K [] (dn o v)):=rfl
theorem wv {b off : Nat} : nu N o (.loc b off) = ret N o (.loc b off):=rfl
theorem yz {b off v : Nat} : nu N o (.lo b off v) = ret N o (.lo b off v):=rfl
theorem yA {cs : List AV} {off : Nat} : nu N o (.rf cs off) = ret N o (.rf cs off):=rfl
theorem yy {i : Nat} {a b : List AV} : nu N o (.fn (.func i) a b) = ret N o (.fn (.func i) a b):=rfl
theorem wu {t : TypeId} {x : AV} : nu N o (.ifc t x) = ret N o (.ifc t x):=rfl
theorem yB {b : Bool} {x y : AV} : nT N o (.c (.bool b)) x y = ret N o (if b then x else y):=rfl
theorem wq {t off : Nat} {cs : List AV} {f : AV→TR} : my P t (.rf cs off) f = kLd P t cs off f:=rfl
theorem yo {op : BinOp} {t : TypeId} {x y : Operand} {k k' : IntKind} {z z' : Int} : k7 P N o op t x y (.c (.int k z)) (.c (.int k' z')) = .need (k = k'∨kB op = true) (match mv op k z z' with | some v=>ret N o (.c v) | none=>fail):=rfl
theorem yn {op : BinOp} {t : TypeId} {x y : Operand} {t' : TypeId} {a : AV} : k7 P N o op t x y (.ifc t' a) (.c .nilIface) = (match iE op with | some r=>.need (aI P t = false∧(P.underlying t).isSome = true) (ret N o (.c (.bool (!r)))) | none=>fail):=rfl
theorem yp {op : BinOp} {t : TypeId} {x y : Operand} {t' : TypeId} {a : AV} : k7 P N o op t x y (.c .nilIface) (.ifc t' a) = (match iE op with | some r=>.need (aI P t = false∧(P.underlying t).isSome = true) (ret N o (.c (.bool (!r)))) | none=>fail):=rfl
theorem yq {op : BinOp} {t : TypeId} {x y : Operand} : k7 P N o op t x y (.c .nilIface) (.c .nilIface) = iK P N o op t x y .nilIface .nilIface:=rfl
theorem yr {op : BinOp} {t : TypeId} {x y : Operand} {a b : ByteArray} : k7 P N o op t x y (.c (.string a)) (.c (.string b)) = iK P N o op t x y (.string a) (.string b):=rfl
theorem yj {op : BinOp} {t : TypeId} {x y : Operand} {a b : Bool} : k7 P N o op t x y (.c (.bool a)) (.c (.bool b)) = iK P N o op t x y (.bool a) (.bool b):=rfl
theorem ym {op : BinOp} {t : TypeId} {x y : Operand} {t1 t2 : TypeId} {a b : AV} : k7 P N o op t x y (.ifc t1 a) (.ifc t2 b) = (match gJ (.ifc t1 a),gJ (.ifc t2 b) with | some vx,some vy=>iK P N o op t x y vx vy | _,_=>fail):=rfl
theorem yi {op : BinOp} {t : TypeId} {x y : Operand} {a b : List AV} : k7 P N o op t x y (.agg a) (.agg b) = (match gJ (.agg a),gJ (.agg b) with | some vx,some vy=>iK P N o op t x y vx vy | _,_=>fail):=rfl
theorem yD {b : Bool} : kUn N o .not (.c (.bool b)) = ret N o (.c (.bool (!b))):=rfl
theorem yC {k : IntKind} {n : Int} : kUn N o .neg (.c (.int k n)) = ret N o (.c (.int k (k.wrap (0 - n)))):=rfl
theorem sq {cs : List AV} {i : Nat} : ik N o (.tup cs) i = .need (i < cs.length) (ret N o (cs.getD i .u)):=rfl
theorem yv {t n : Nat} {cs : List AV} {w : Own} : pj P N o t (.sl cs n w) = .need ((aT P t).isSome = true) (ret N o (.c (.int .i64 n))):=rfl
theorem wo {t b off n e : Nat} : pj P N o t (.arr b off n e) = .need ((aT P t).isSome = true) (ret N o (.c (.int .i64 n))):=rfl
theorem yu {t b off n v : Nat} : pj P N o t (.ow b off n v) = .need ((aT P t).isSome = true) (ret N o (.c (.int .i64 n))):=rfl
theorem AG {t : Nat} {s : ByteArray} : pj P N o t (.c (.string s)) = .need (bm P t = true) (ret N o (.c (.int .i64 s.size))):=rfl
theorem yw {k k' : IntKind} {m n : Int} : kMM N o true (.c (.int k m)) (.c (.int k' n)) = ret N o (.c (.int k (if n > m then n else m))):=rfl
theorem yx {k k' : IntKind} {m n : Int} : kMM N o false (.c (.int k m)) (.c (.int k' n)) = ret N o (.c (.int k (if n < m then n else m))):=rfl
end
attribute [go_sem] tp tn
attribute [-go_sem] gX TR.wp nu nT k7 kUn ik pj aop
attribute [go_sem] wv yz yA yy wu yB wq yo yn yp yq yr yj ym yi yD yC sq yv wo yu AG yw yx
attribute [go_sem ↓] zI BG zJ BF zH s5 pU nD rF rG pV pS pT wp_ret
end Go.Proofs.YtmpdocplcgbpkaaGreatDoor
